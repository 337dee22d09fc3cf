/-
  The lower layers, walked and in closed forms, part 6: SchedK, SchedH, SchedI, RowsIn, StructIn, BytInj.
-/
import Derived.Test.YtpdgeanicciaiaaY0
import Derived.Test.YtpdgeanicciaiaaY1
import Derived.Test.YtpdgeanicciaiaaY5
import Derived.Test.YtpdgeanicciaiaaUGuard
import Derived.Test.YtpdgeanicciaiaaUSized
import Derived.Test.YtpdgeanicciaiaaUWords
import Derived.Lib.SlBytesConst
import Derived.Deep.DeepMust
import Derived.Deep.Matrix
import Derived.SizedLaws
/-! SchedK -/
namespace Go.Proofs.Ytpdgeanicciaiaa
set_option linter.unusedVariables false
set_option linter.unusedSimpArgs false
open Go.RowKit Go.Proofs.YtpdgeanicciaiaaW.PrintWords Go.Proofs.YtpdgeanicciaiaaW.PrintLast Go.Proofs.YtpdgeanicciaiaaW.PrintMore Iter
theorem c_five (W : World) (T : Nat) (A B D E F : Option Addr) (c d e f g : Nat) (x y z u v : List Int) (hx : Kd.C (Kd.int .u8) W A x.length x) (hcx : x.length ≤ c) (hy : Kd.C (Kd.int .u8) W B y.length y) (hcy : y.length ≤ d) (hz : Kd.C (Kd.int .u8) W D z.length z) (hcz : z.length ≤ e) (hu : Kd.C (Kd.int .u8) W E u.length u) (hcu : u.length ≤ f) (hv : Kd.C (Kd.int .u8) W F v.length v) (hcv : v.length ≤ g) :
    Kd.C (Kd.slice 5 (Kd.int .u8)) (W.alloc (.cells #[.slice A x.length c, .slice B y.length d, .slice D z.length e, .slice E u.length f, .slice F v.length g] T)) (some ⟨W.heap.size, 0, none⟩) 5 [x, y, z, u, v] := by
  refine ⟨rfl, by omega, fun _ => ⟨_, rfl, fun j p hj => ?_⟩⟩
  have hcell : ∀ j, (W.alloc (.cells #[.slice A x.length c, .slice B y.length d, .slice D z.length e, .slice E u.length f, .slice F v.length g] T)).cell? ((⟨W.heap.size, 0, none⟩ : Addr).add j) = (#[.slice A x.length c, .slice B y.length d, .slice D z.length e, .slice E u.length f, .slice F v.length g] : Array Value)[j]? := fun j => by
    rw [add_plain]
    exact cell_of_row _ _ _ _ _ _ (heap_alloc_new W _)
  rcases j with _ | j
  · injection hj with hj
    subst hj
    refine ⟨[.slice A x.length c], rfl, ⟨A, c, rfl, hcx, Kd.C_alloc hx _⟩, fun i u hu => ?_⟩
    rcases i with _ | i
    · exact (hcell 0).trans hu
    · cases hu
  rcases j with _ | j
  · injection hj with hj
    subst hj
    refine ⟨[.slice B y.length d], rfl, ⟨B, d, rfl, hcy, Kd.C_alloc hy _⟩, fun i u hu => ?_⟩
    rcases i with _ | i
    · exact (hcell 1).trans hu
    · cases hu
  rcases j with _ | j
  · injection hj with hj
    subst hj
    refine ⟨[.slice D z.length e], rfl, ⟨D, e, rfl, hcz, Kd.C_alloc hz _⟩, fun i u hu => ?_⟩
    rcases i with _ | i
    · exact (hcell 2).trans hu
    · cases hu
  rcases j with _ | j
  · injection hj with hj
    subst hj
    refine ⟨[.slice E u.length f], rfl, ⟨E, f, rfl, hcu, Kd.C_alloc hu _⟩, fun i u hu => ?_⟩
    rcases i with _ | i
    · exact (hcell 3).trans hu
    · cases hu
  rcases j with _ | j
  · injection hj with hj
    subst hj
    refine ⟨[.slice F v.length g], rfl, ⟨F, g, rfl, hcv, Kd.C_alloc hv _⟩, fun i u hu => ?_⟩
    rcases i with _ | i
    · exact (hcell 4).trans hu
    · cases hu
  cases hj
theorem num6_in (n : Nat) (h : n < 281474976710656) : numOf (n : Int) 6 = (numB n 6, 0) := numOf_small n 6 (by omega) (by omega) (by simpa using h)
/-- What an epoch belongs to. -/
def ctxOf (own : List Int) (n : Nat) (tree log : List Int) : List Int := rowB own ++ numB n 6 ++ rowB tree ++ rowB log
def ctxIs (own : List Int) (epoch : Int) (tree log : List Int) : Prop := 0 ≤ epoch ∧ epoch < 281474976710656 ∧ own.length ≤ 255 ∧ tree.length = 32 ∧ log.length = 32
instance (own : List Int) (epoch : Int) (tree log : List Int) : Decidable (ctxIs own epoch tree log) := by unfold ctxIs; infer_instance
def ctxRes (own : List Int) (epoch : Int) (tree log : List Int) : List Int × Int := if ctxIs own epoch tree log then (ctxOf own epoch.toNat tree log, 0) else ([], 1)
theorem ctx_ok (own : List Int) (n : Nat) (tree log : List Int) (o0 : byteOk own = true) (o1 : byteOk tree = true) (o2 : byteOk log = true) (h0 : own.length ≤ 255) (h1 : tree.length = 32) (h2 : log.length = 32) :
    byteOk (ctxOf own n tree log) = true ∧ (ctxOf own n tree log).length ≤ 400 := by
  unfold ctxOf
  refine ⟨?_, ?_⟩
  · rw [byteOk_append, byteOk_append, byteOk_append]
    exact ⟨⟨⟨byteOk_rowB _ o0, byteOk_numB _ _⟩, byteOk_rowB _ o1⟩, byteOk_rowB _ o2⟩
  · have a := rowB_length own
    have b := rowB_length tree
    have c := rowB_length log
    rw [List.length_append, List.length_append, List.length_append, numB_length]
    omega
theorem ctxRes_no (own : List Int) (epoch : Int) (tree log : List Int) (h : ¬ ctxIs own epoch tree log) : ctxRes own epoch tree log = ([], 1) := if_neg h
theorem ctxRes_yes (own : List Int) (n : Nat) (tree log : List Int) (h : ctxIs own (n : Int) tree log) : ctxRes own (n : Int) tree log = (ctxOf own n tree log, 0) := if_pos h
theorem rows_some (l : List (List Int)) (h : l.length ≤ 1000) (h2 : ∀ x ∈ l, x.length ≤ 100000) : P.sched_rows.f l = some (rowsB l) := by
  unfold P.sched_rows.f
  rw [if_pos ⟨h, h2⟩]
def labJoiner : ByteArray := ⟨#[106, 111, 105, 110, 101, 114]⟩
def labExported : ByteArray := ⟨#[101, 120, 112, 111, 114, 116, 101, 100]⟩
def joinerOf (a b c : List Int) : List Int := labelOf (macSum a b) labJoiner c 32
def joinerRes (a b c : List Int) : List Int × Int := if a.length = 32 ∧ b.length = 32 then (joinerOf a b c, 0) else ([], 1)
theorem lab_some (s : List Int) (a : ByteArray) (c : List Int) (o1 : byteOk s = true) (o2 : byteOk c = true) (l1 : s.length ≤ 900000) (l2 : a.size ≤ 100000) (l3 : c.length ≤ 100000) : P.sched_label.f s a c = some (labelOf s a c 32) := by
  unfold P.sched_label.f
  rw [if_pos ⟨o1, o2, l1, l2, l3⟩]
def proofRes (r : Bool) (confirm log : List Int) : List Int × Int := if r = true ∧ log.length = 32 then (macSum confirm log, 0) else ([], 1)
def exportRes (r : Bool) (s : List Int) (a : ByteArray) (c : List Int) (n : Int) : List Int × Int := if r = true ∧ 0 ≤ n ∧ n ≤ 8160 then (labelOf (labelOf s a [] 32) labExported (dig c) n.toNat, 0) else ([], 1)
theorem sha_some (x : List Int) (h : byteOk x = true) (hl : x.length ≤ 900000) : P.sha_Sum.f x = some (dig x) := by
  unfold P.sha_Sum.f
  rw [if_pos ⟨h, by omega⟩]
  rfl
namespace P
set_option maxRecDepth 100000 in
set_option maxHeartbeats 1000000 in
theorem right_calls (A0_0 : Option Addr) (c0_0 : Nat) (l0_0 : List Int) (A0_1 : Option Addr) (c0_1 : Nat) (l0_1 : List Int) (A0_2 : Option Addr) (c0_2 : Nat) (l0_2 : List Int) (A0_3 : Option Addr) (c0_3 : Nat) (l0_3 : List Int) (A0_4 : Option Addr) (c0_4 : Nat) (l0_4 : List Int) (w : World) (hr0_0 : Kd.C (Kd.int .u8) w A0_0 l0_0.length l0_0) (hc0_0 : l0_0.length ≤ c0_0) (hr0_1 : Kd.C (Kd.int .u8) w A0_1 l0_1.length l0_1) (hc0_1 : l0_1.length ≤ c0_1) (hr0_2 : Kd.C (Kd.int .u8) w A0_2 l0_2.length l0_2) (hc0_2 : l0_2.length ≤ c0_2) (hr0_3 : Kd.C (Kd.int .u8) w A0_3 l0_3.length l0_3) (hc0_3 : l0_3.length ≤ c0_3) (hr0_4 : Kd.C (Kd.int .u8) w A0_4 l0_4.length l0_4) (hc0_4 : l0_4.length ≤ c0_4) :
    Calls Try.prog 71 #[.agg #[.slice A0_0 l0_0.length c0_0, .slice A0_1 l0_1.length c0_1, .slice A0_2 l0_2.length c0_2, .slice A0_3 l0_3.length c0_3, .slice A0_4 l0_4.length c0_4]] w fun e w' => e = .returned (.bool ([l0_0, l0_1, l0_2, l0_3, l0_4].all row32)) ∧ Below w.heap.size w w' := by
  have hB := Blk.new w 60 #[.slice A0_0 l0_0.length c0_0, .slice A0_1 l0_1.length c0_1, .slice A0_2 l0_2.length c0_2, .slice A0_3 l0_3.length c0_3, .slice A0_4 l0_4.length c0_4]
  have hw := c_five (w.alloc (Obj.cells #[.slice A0_0 l0_0.length c0_0, .slice A0_1 l0_1.length c0_1, .slice A0_2 l0_2.length c0_2, .slice A0_3 l0_3.length c0_3, .slice A0_4 l0_4.length c0_4] 60)) 22 A0_0 A0_1 A0_2 A0_3 A0_4 c0_0 c0_1 c0_2 c0_3 c0_4 l0_0 l0_1 l0_2 l0_3 l0_4 (Kd.C_alloc hr0_0 _) hc0_0 (Kd.C_alloc hr0_1 _) hc0_1 (Kd.C_alloc hr0_2 _) hc0_2 (Kd.C_alloc hr0_3 _) hc0_3 (Kd.C_alloc hr0_4 _) hc0_4
  rw [World.size_alloc] at hw
  have hb := ((Below.refl w.heap.size w).alloc (Nat.le_refl _) (Obj.cells #[.slice A0_0 l0_0.length c0_0, .slice A0_1 l0_1.length c0_1, .slice A0_2 l0_2.length c0_2, .slice A0_3 l0_3.length c0_3, .slice A0_4 l0_4.length c0_4] 60)).alloc (by rw [World.size_alloc]; omega) (Obj.cells #[.slice A0_0 l0_0.length c0_0, .slice A0_1 l0_1.length c0_1, .slice A0_2 l0_2.length c0_2, .slice A0_3 l0_3.length c0_3, .slice A0_4 l0_4.length c0_4] 22)
  have k0 : (w.alloc (Obj.cells #[.slice A0_0 l0_0.length c0_0, .slice A0_1 l0_1.length c0_1, .slice A0_2 l0_2.length c0_2, .slice A0_3 l0_3.length c0_3, .slice A0_4 l0_4.length c0_4] 60)).cell? ⟨w.heap.size, 0, none⟩ = some (.slice A0_0 l0_0.length c0_0) := (hB.cell 0).trans rfl
  have k1 : (w.alloc (Obj.cells #[.slice A0_0 l0_0.length c0_0, .slice A0_1 l0_1.length c0_1, .slice A0_2 l0_2.length c0_2, .slice A0_3 l0_3.length c0_3, .slice A0_4 l0_4.length c0_4] 60)).cell? ⟨w.heap.size, 1, none⟩ = some (.slice A0_1 l0_1.length c0_1) := (hB.cell 1).trans rfl
  have k2 : (w.alloc (Obj.cells #[.slice A0_0 l0_0.length c0_0, .slice A0_1 l0_1.length c0_1, .slice A0_2 l0_2.length c0_2, .slice A0_3 l0_3.length c0_3, .slice A0_4 l0_4.length c0_4] 60)).cell? ⟨w.heap.size, 2, none⟩ = some (.slice A0_2 l0_2.length c0_2) := (hB.cell 2).trans rfl
  have k3 : (w.alloc (Obj.cells #[.slice A0_0 l0_0.length c0_0, .slice A0_1 l0_1.length c0_1, .slice A0_2 l0_2.length c0_2, .slice A0_3 l0_3.length c0_3, .slice A0_4 l0_4.length c0_4] 60)).cell? ⟨w.heap.size, 3, none⟩ = some (.slice A0_3 l0_3.length c0_3) := (hB.cell 3).trans rfl
  have k4 : (w.alloc (Obj.cells #[.slice A0_0 l0_0.length c0_0, .slice A0_1 l0_1.length c0_1, .slice A0_2 l0_2.length c0_2, .slice A0_3 l0_3.length c0_3, .slice A0_4 l0_4.length c0_4] 60)).cell? ⟨w.heap.size, 4, none⟩ = some (.slice A0_4 l0_4.length c0_4) := (hB.cell 4).trans rfl
  have hwh := whole_some [l0_0, l0_1, l0_2, l0_3, l0_4] (by simp)
  generalize [l0_0, l0_1, l0_2, l0_3, l0_4].all row32 = r at *
  have H := Lib.hid (And.intro hw (And.intro hb hwh))
  clear hB hw hb hwh
  go_enter Try.func71, Try.ntmps71
  go_wp2_with fail
  refine (sched_whole.calls _ 5 [l0_0, l0_1, l0_2, l0_3, l0_4] _ _ H.out.1 (Nat.le_refl _) H.out.2.2).mono ?_
  rintro e w' ⟨rfl, ⟨nd, rfl⟩⟩
  go_wp2
  go_ret
  exact ⟨rfl, pw_below_drewN H.out.2.1 nd⟩
def sched_Proof.f (l0_0 l0_1 l0_2 l0_3 l0_4 l1 : List Int) : Option (List Int × Int) := if byteOk l0_3 = true ∧ byteOk l1 = true ∧ l0_3.length ≤ 100000 ∧ l1.length ≤ 100000 then some (proofRes ([l0_0, l0_1, l0_2, l0_3, l0_4].all row32) l0_3 l1) else none
set_option maxRecDepth 100000 in
set_option maxHeartbeats 2000000 in
theorem sched_Proof.calls (A0_0 : Option Addr) (c0_0 : Nat) (l0_0 : List Int) (A0_1 : Option Addr) (c0_1 : Nat) (l0_1 : List Int) (A0_2 : Option Addr) (c0_2 : Nat) (l0_2 : List Int) (A0_3 : Option Addr) (c0_3 : Nat) (l0_3 : List Int) (A0_4 : Option Addr) (c0_4 : Nat) (l0_4 : List Int) (A1 : Option Addr) (c1 : Nat) (l1 : List Int) (r1 : List Int) (r2 : Int) (w : World) (hr0_0 : Kd.C (Kd.int .u8) w A0_0 l0_0.length l0_0) (hc0_0 : l0_0.length ≤ c0_0) (hr0_1 : Kd.C (Kd.int .u8) w A0_1 l0_1.length l0_1) (hc0_1 : l0_1.length ≤ c0_1) (hr0_2 : Kd.C (Kd.int .u8) w A0_2 l0_2.length l0_2) (hc0_2 : l0_2.length ≤ c0_2) (hr0_3 : Kd.C (Kd.int .u8) w A0_3 l0_3.length l0_3) (hc0_3 : l0_3.length ≤ c0_3) (hr0_4 : Kd.C (Kd.int .u8) w A0_4 l0_4.length l0_4) (hc0_4 : l0_4.length ≤ c0_4) (hr1 : Kd.C (Kd.int .u8) w A1 l1.length l1) (hc1 : l1.length ≤ c1) (h : sched_Proof.f l0_0 l0_1 l0_2 l0_3 l0_4 l1 = some (r1, r2)) :
    Calls Try.prog 43 #[.agg #[.slice A0_0 l0_0.length c0_0, .slice A0_1 l0_1.length c0_1, .slice A0_2 l0_2.length c0_2, .slice A0_3 l0_3.length c0_3, .slice A0_4 l0_4.length c0_4], .slice A1 l1.length c1] w fun e w' => ∃ v0_ : Value, e = .returned (.tuple #[v0_, .int .i64 r2]) ∧ Kd.R (Kd.int .u8) 5 w' w.heap.size (fun _ => True) v0_ r1 ∧ Below w.heap.size w w' := by
  unfold sched_Proof.f at h
  split at h
  case isFalse => cases h
  case isTrue hok =>
  injection h with h
  obtain ⟨o0, o1, n0, n1⟩ := hok
  have hB := Blk.new w 60 #[.slice A0_0 l0_0.length c0_0, .slice A0_1 l0_1.length c0_1, .slice A0_2 l0_2.length c0_2, .slice A0_3 l0_3.length c0_3, .slice A0_4 l0_4.length c0_4]
  have hb := (Below.refl w.heap.size w).alloc (Nat.le_refl _) (Obj.cells #[.slice A0_0 l0_0.length c0_0, .slice A0_1 l0_1.length c0_1, .slice A0_2 l0_2.length c0_2, .slice A0_3 l0_3.length c0_3, .slice A0_4 l0_4.length c0_4] 60)
  have hR := right_calls A0_0 c0_0 l0_0 A0_1 c0_1 l0_1 A0_2 c0_2 l0_2 A0_3 c0_3 l0_3 A0_4 c0_4 l0_4 (w.alloc (Obj.cells #[.slice A0_0 l0_0.length c0_0, .slice A0_1 l0_1.length c0_1, .slice A0_2 l0_2.length c0_2, .slice A0_3 l0_3.length c0_3, .slice A0_4 l0_4.length c0_4] 60)) (Kd.C_alloc hr0_0 _) hc0_0 (Kd.C_alloc hr0_1 _) hc0_1 (Kd.C_alloc hr0_2 _) hc0_2 (Kd.C_alloc hr0_3 _) hc0_3 (Kd.C_alloc hr0_4 _) hc0_4
  obtain ⟨r, hr⟩ : ∃ r, [l0_0, l0_1, l0_2, l0_3, l0_4].all row32 = r := ⟨_, rfl⟩
  rw [hr] at hR h
  have hm := mac_some l0_3 l1 o0 o1 (by omega) (by omega)
  have H := Lib.hid (And.intro hB (And.intro hb (And.intro hR (And.intro hr0_3 (And.intro hr1 hm)))))
  clear hB hb hR hr hm hr0_0 hr0_1 hr0_2 hr0_3 hr0_4 hr1 o0 o1 n0 n1
  cases r with
  | false =>
    have hres : proofRes false l0_3 l1 = ([], 1) := if_neg (by simp)
    rw [hres] at h
    injection h with h1 h2
    subst h1 h2
    clear hres
    go_enter Try.func43, Try.ntmps43
    go_wp2_with (refine wpList_load_row rfl 60 (.tmp 2) rfl w.heap.size rfl 60 _ (0, 0) _ H.out.1 Try.underlying60 rfl infoEp ?_)
    refine H.out.2.2.1.mono ?_
    rintro e W1 ⟨rfl, hb1⟩
    have HB := Lib.hid (H.out.2.1.trans (hb1.mono (by rw [World.size_alloc]; omega)))
    clear hb1
    go_wp2
    go_ret2
    exact ⟨_, rfl, Kd.R_nil _ _ _ _ _, HB.out⟩
  | true =>
    have hwh := whole_some [l1] (by simp)
    by_cases h32 : l1.length = 32
    · rw [show [l1].all row32 = true by simp [row32_true h32]] at hwh
      rw [show proofRes true l0_3 l1 = (macSum l0_3 l1, 0) from if_pos ⟨rfl, h32⟩] at h
      injection h with h1 h2
      subst h1 h2
      have HW := Lib.hid hwh
      clear hwh h32
      go_enter Try.func43, Try.ntmps43
      go_wp2_with (refine wpList_load_row rfl 60 (.tmp 2) rfl w.heap.size rfl 60 _ (0, 0) _ H.out.1 Try.underlying60 rfl infoEp ?_)
      refine H.out.2.2.1.mono ?_
      rintro e W1 ⟨rfl, hb1⟩
      have hw1 := H.out.2.1.trans (hb1.mono (by rw [World.size_alloc]; omega))
      have hB1 := H.out.1.below hb1 H.out.1.lt
      have hcell := ((hB1.alloc (Obj.cells #[.slice A1 l1.length c1] 22)).cell 3).trans (rfl : _ = some (Value.slice A0_3 l0_3.length c0_3))
      have hcw := c_one W1 22 A1 c1 l1 (Kd.C_below H.out.2.2.2.2.1 hw1) hc1
      have hw2 := hw1.alloc hw1.size (Obj.cells #[.slice A1 l1.length c1] 22)
      have H1 := Lib.hid (And.intro hcw (And.intro hw2 hcell))
      clear hb1 hw1 hB1 hcell hcw hw2
      go_wp2_with fail
      refine (sched_whole.calls _ 1 [l1] _ _ H1.out.1 (Nat.le_refl _) HW.out).mono ?_
      rintro e w' ⟨rfl, ⟨nd, rfl⟩⟩
      have hw3 := pw_below_drewN H1.out.2.1 nd
      have hcell := H1.out.2.2
      clear H1
      generalize W1.alloc (Obj.cells #[.slice A1 l1.length c1] 22) = W2 at *
      have hcell : (W2.drewN nd).cell? ⟨w.heap.size, 3, none⟩ = some (Value.slice A0_3 l0_3.length c0_3) := hcell
      have H2 := Lib.hid hw3
      clear hw3
      go_wp2_with fail
      refine (mac_Sum.calls A0_3 c0_3 l0_3 A1 c1 l1 (macSum l0_3 l1) _ (Kd.C_below H.out.2.2.2.1 H2.out) hc0_3 (Kd.C_below H.out.2.2.2.2.1 H2.out) hc1 H.out.2.2.2.2.2).mono ?_
      rintro e W5 ⟨v5, rfl, hR5, hb5⟩
      go_wp2
      go_ret2
      exact ⟨_, rfl, Kd.R_lower hR5 H2.out.size, H2.out.trans (hb5.mono H2.out.size)⟩
    · rw [show [l1].all row32 = false by simp [row32_false h32]] at hwh
      rw [show proofRes true l0_3 l1 = ([], 1) from if_neg (fun q => h32 q.2)] at h
      injection h with h1 h2
      subst h1 h2
      have HW := Lib.hid hwh
      clear hwh h32
      go_enter Try.func43, Try.ntmps43
      go_wp2_with (refine wpList_load_row rfl 60 (.tmp 2) rfl w.heap.size rfl 60 _ (0, 0) _ H.out.1 Try.underlying60 rfl infoEp ?_)
      refine H.out.2.2.1.mono ?_
      rintro e W1 ⟨rfl, hb1⟩
      have hw1 := H.out.2.1.trans (hb1.mono (by rw [World.size_alloc]; omega))
      have hB1 := H.out.1.below hb1 H.out.1.lt
      have hcell := ((hB1.alloc (Obj.cells #[.slice A1 l1.length c1] 22)).cell 3).trans (rfl : _ = some (Value.slice A0_3 l0_3.length c0_3))
      have hcw := c_one W1 22 A1 c1 l1 (Kd.C_below H.out.2.2.2.2.1 hw1) hc1
      have hw2 := hw1.alloc hw1.size (Obj.cells #[.slice A1 l1.length c1] 22)
      have H1 := Lib.hid (And.intro hcw (And.intro hw2 hcell))
      clear hb1 hw1 hB1 hcell hcw hw2
      go_wp2_with fail
      refine (sched_whole.calls _ 1 [l1] _ _ H1.out.1 (Nat.le_refl _) HW.out).mono ?_
      rintro e w' ⟨rfl, ⟨nd, rfl⟩⟩
      have hw3 := pw_below_drewN H1.out.2.1 nd
      have hcell := H1.out.2.2
      clear H1
      generalize W1.alloc (Obj.cells #[.slice A1 l1.length c1] 22) = W2 at *
      have hcell : (W2.drewN nd).cell? ⟨w.heap.size, 3, none⟩ = some (Value.slice A0_3 l0_3.length c0_3) := hcell
      have H2 := Lib.hid hw3
      clear hw3
      go_wp2_with fail
      go_ret2
      exact ⟨_, rfl, Kd.R_nil _ _ _ _ _, H2.out⟩
def sched_Export.f (l0_0 l0_1 l0_2 l0_3 l0_4 : List Int) (a1 : ByteArray) (l2 : List Int) (a3 : Int) : Option (List Int × Int) := if byteOk l0_2 = true ∧ byteOk l2 = true ∧ l0_2.length ≤ 100000 ∧ a1.size ≤ 100000 ∧ l2.length ≤ 100000 then some (exportRes ([l0_0, l0_1, l0_2, l0_3, l0_4].all row32) l0_2 a1 l2 a3) else none
set_option maxRecDepth 100000 in
set_option maxHeartbeats 2000000 in
theorem sched_Export.calls (A0_0 : Option Addr) (c0_0 : Nat) (l0_0 : List Int) (A0_1 : Option Addr) (c0_1 : Nat) (l0_1 : List Int) (A0_2 : Option Addr) (c0_2 : Nat) (l0_2 : List Int) (A0_3 : Option Addr) (c0_3 : Nat) (l0_3 : List Int) (A0_4 : Option Addr) (c0_4 : Nat) (l0_4 : List Int) (a1 : ByteArray) (A2 : Option Addr) (c2 : Nat) (l2 : List Int) (a3 : Int) (r1 : List Int) (r2 : Int) (w : World) (hr0_0 : Kd.C (Kd.int .u8) w A0_0 l0_0.length l0_0) (hc0_0 : l0_0.length ≤ c0_0) (hr0_1 : Kd.C (Kd.int .u8) w A0_1 l0_1.length l0_1) (hc0_1 : l0_1.length ≤ c0_1) (hr0_2 : Kd.C (Kd.int .u8) w A0_2 l0_2.length l0_2) (hc0_2 : l0_2.length ≤ c0_2) (hr0_3 : Kd.C (Kd.int .u8) w A0_3 l0_3.length l0_3) (hc0_3 : l0_3.length ≤ c0_3) (hr0_4 : Kd.C (Kd.int .u8) w A0_4 l0_4.length l0_4) (hc0_4 : l0_4.length ≤ c0_4) (hr2 : Kd.C (Kd.int .u8) w A2 l2.length l2) (hc2 : l2.length ≤ c2) (h : sched_Export.f l0_0 l0_1 l0_2 l0_3 l0_4 a1 l2 a3 = some (r1, r2)) :
    Calls Try.prog 45 #[.agg #[.slice A0_0 l0_0.length c0_0, .slice A0_1 l0_1.length c0_1, .slice A0_2 l0_2.length c0_2, .slice A0_3 l0_3.length c0_3, .slice A0_4 l0_4.length c0_4], .string a1, .slice A2 l2.length c2, .int .i64 a3] w fun e w' => ∃ v0_ : Value, e = .returned (.tuple #[v0_, .int .i64 r2]) ∧ Kd.R (Kd.int .u8) 5 w' w.heap.size (fun _ => True) v0_ r1 ∧ Below w.heap.size w w' := by
  unfold sched_Export.f at h
  split at h
  case isFalse => cases h
  case isTrue hok =>
  injection h with h
  obtain ⟨o0, o1, n0, n1, n2⟩ := hok
  have hB := Blk.new w 60 #[.slice A0_0 l0_0.length c0_0, .slice A0_1 l0_1.length c0_1, .slice A0_2 l0_2.length c0_2, .slice A0_3 l0_3.length c0_3, .slice A0_4 l0_4.length c0_4]
  have hb := (Below.refl w.heap.size w).alloc (Nat.le_refl _) (Obj.cells #[.slice A0_0 l0_0.length c0_0, .slice A0_1 l0_1.length c0_1, .slice A0_2 l0_2.length c0_2, .slice A0_3 l0_3.length c0_3, .slice A0_4 l0_4.length c0_4] 60)
  have hR := right_calls A0_0 c0_0 l0_0 A0_1 c0_1 l0_1 A0_2 c0_2 l0_2 A0_3 c0_3 l0_3 A0_4 c0_4 l0_4 (w.alloc (Obj.cells #[.slice A0_0 l0_0.length c0_0, .slice A0_1 l0_1.length c0_1, .slice A0_2 l0_2.length c0_2, .slice A0_3 l0_3.length c0_3, .slice A0_4 l0_4.length c0_4] 60)) (Kd.C_alloc hr0_0 _) hc0_0 (Kd.C_alloc hr0_1 _) hc0_1 (Kd.C_alloc hr0_2 _) hc0_2 (Kd.C_alloc hr0_3 _) hc0_3 (Kd.C_alloc hr0_4 _) hc0_4
  obtain ⟨r, hr⟩ : ∃ r, [l0_0, l0_1, l0_2, l0_3, l0_4].all row32 = r := ⟨_, rfl⟩
  rw [hr] at hR h
  have hl := lab_some l0_2 a1 [] o0 rfl (by omega) n1 (by simp)
  have hd := sha_some l2 o1 (by omega)
  have hx : 0 ≤ a3 ∧ a3 ≤ 8160 → kdf_Label.f (labelOf l0_2 a1 [] 32) labExported (dig l2) a3 = some (labelOf (labelOf l0_2 a1 [] 32) labExported (dig l2) a3.toNat, 0) := fun q => by
    obtain ⟨m, rfl⟩ := Int.eq_ofNat_of_zero_le q.1
    rw [Int.toNat_natCast]
    exact label_some _ labExported _ m (by omega) (byteOk_labelOf _ _ _ _) (byteOk_dig _) (by rw [labelOf_length]; omega) (by decide) (by rw [dig_length]; omega)
  have H := Lib.hid (And.intro hB (And.intro hb (And.intro hR (And.intro hr0_2 (And.intro hr2 (And.intro hl (And.intro hd hx)))))))
  clear hB hb hR hr hl hd hx hr0_0 hr0_1 hr0_2 hr0_3 hr0_4 hr2 o0 o1 n0 n1 n2
  cases r with
  | false =>
    rw [show exportRes false l0_2 a1 l2 a3 = ([], 1) from if_neg (by simp)] at h
    injection h with h1 h2
    subst h1 h2
    go_enter Try.func45, Try.ntmps45
    go_wp2_with (refine wpList_load_row rfl 60 (.tmp 4) rfl w.heap.size rfl 60 _ (0, 0) _ H.out.1 Try.underlying60 rfl infoEp ?_)
    refine H.out.2.2.1.mono ?_
    rintro e W1 ⟨rfl, hb1⟩
    have HB := Lib.hid (H.out.2.1.trans (hb1.mono (by rw [World.size_alloc]; omega)))
    clear hb1
    go_wp2
    go_ret2
    exact ⟨_, rfl, Kd.R_nil _ _ _ _ _, HB.out⟩
  | true =>
    by_cases h0 : a3 < 0
    · have d0 : decide (a3 < 0) = true := by simp [h0]
      rw [show exportRes true l0_2 a1 l2 a3 = ([], 1) from if_neg (fun q => by have := q.2.1; omega)] at h
      injection h with h1 h2
      subst h1 h2
      go_enter Try.func45, Try.ntmps45
      go_wp2_with (refine wpList_load_row rfl 60 (.tmp 4) rfl w.heap.size rfl 60 _ (0, 0) _ H.out.1 Try.underlying60 rfl infoEp ?_)
      refine H.out.2.2.1.mono ?_
      rintro e W1 ⟨rfl, hb1⟩
      have HB := Lib.hid (H.out.2.1.trans (hb1.mono (by rw [World.size_alloc]; omega)))
      clear hb1
      go_wp2
      go_ret2
      exact ⟨_, rfl, Kd.R_nil _ _ _ _ _, HB.out⟩
    have d0 : decide (a3 < 0) = false := by simp; omega
    by_cases h1 : 8160 < a3
    · have d1 : decide (8160 < a3) = true := by simp [h1]
      rw [show exportRes true l0_2 a1 l2 a3 = ([], 1) from if_neg (fun q => by have := q.2.2; omega)] at h
      injection h with h1 h2
      subst h1 h2
      go_enter Try.func45, Try.ntmps45
      go_wp2_with (refine wpList_load_row rfl 60 (.tmp 4) rfl w.heap.size rfl 60 _ (0, 0) _ H.out.1 Try.underlying60 rfl infoEp ?_)
      refine H.out.2.2.1.mono ?_
      rintro e W1 ⟨rfl, hb1⟩
      have HB := Lib.hid (H.out.2.1.trans (hb1.mono (by rw [World.size_alloc]; omega)))
      clear hb1
      go_wp2
      go_ret2
      exact ⟨_, rfl, Kd.R_nil _ _ _ _ _, HB.out⟩
    have d1 : decide (8160 < a3) = false := by simp; omega
    rw [show exportRes true l0_2 a1 l2 a3 = (labelOf (labelOf l0_2 a1 [] 32) labExported (dig l2) a3.toNat, 0) from if_pos ⟨rfl, by omega, by omega⟩] at h
    injection h with h1 h2
    subst h1 h2
    have HX := Lib.hid (H.out.2.2.2.2.2.2.2 ⟨by omega, by omega⟩)
    clear h0 h1
    go_enter Try.func45, Try.ntmps45
    go_wp2_with (refine wpList_load_row rfl 60 (.tmp 4) rfl w.heap.size rfl 60 _ (0, 0) _ H.out.1 Try.underlying60 rfl infoEp ?_)
    refine H.out.2.2.1.mono ?_
    rintro e W1 ⟨rfl, hb1⟩
    have hw1 := H.out.2.1.trans (hb1.mono (by rw [World.size_alloc]; omega))
    have hcell := ((H.out.1.below hb1 H.out.1.lt).cell 2).trans (rfl : _ = some (Value.slice A0_2 l0_2.length c0_2))
    have H1 := Lib.hid hw1
    clear hw1 hb1
    go_wp2_with fail
    refine (sched_label.calls A0_2 c0_2 l0_2 a1 none 0 [] _ _ (Kd.C_below H.out.2.2.2.1 H1.out) hc0_2 (Kd.C_nil _ _) (Nat.le_refl _) H.out.2.2.2.2.2.1).mono ?_
    rintro e W2 ⟨v2, rfl, hR2, hb2⟩
    obtain ⟨B2, d2, rfl, hd2, hC2⟩ := Kd.R_reads hR2
    have hw2 := H1.out.trans (hb2.mono H1.out.size)
    have H2 := Lib.hid (And.intro hC2 hw2)
    clear hC2 hw2 hR2 hb2 hcell H1
    go_wp2_with fail
    refine (sha_Sum.calls A2 c2 l2 _ _ (Kd.C_below H.out.2.2.2.2.1 H2.out.2) hc2 H.out.2.2.2.2.2.2.1).mono ?_
    rintro e W3 ⟨v3, rfl, hR3, hb3⟩
    obtain ⟨B3, d3, rfl, hd3, hC3⟩ := Kd.R_reads hR3
    have hw3 := H2.out.2.trans (hb3.mono H2.out.2.size)
    have hC2 := Kd.C_below H2.out.1 hb3
    have H3 := Lib.hid (And.intro hC2 (And.intro hC3 hw3))
    clear hC2 hC3 hw3 hR3 hb3 H2
    go_wp2_with fail
    refine (kdf_Label.calls B2 d2 _ labExported B3 d3 _ a3 _ 0 _ H3.out.1 hd2 H3.out.2.1 hd3 HX.out).mono ?_
    rintro e W5 ⟨v5, rfl, hR5, hb5⟩
    go_wp2
    go_ret2
    exact ⟨_, rfl, Kd.R_lower hR5 H3.out.2.2.size, H3.out.2.2.trans (hb5.mono H3.out.2.2.size)⟩
def sched_Joiner.f (a b c : List Int) : Option (List Int × Int) := if okThree a b c then some (joinerRes a b c) else none
set_option maxRecDepth 100000 in
set_option maxHeartbeats 2000000 in
theorem sched_Joiner.calls (A0 : Option Addr) (c0 : Nat) (l0 : List Int) (A1 : Option Addr) (c1 : Nat) (l1 : List Int) (A2 : Option Addr) (c2 : Nat) (l2 : List Int) (r1 : List Int) (r2 : Int) (w : World) (hr0 : Kd.C (Kd.int .u8) w A0 l0.length l0) (hc0 : l0.length ≤ c0) (hr1 : Kd.C (Kd.int .u8) w A1 l1.length l1) (hc1 : l1.length ≤ c1) (hr2 : Kd.C (Kd.int .u8) w A2 l2.length l2) (hc2 : l2.length ≤ c2) (h : sched_Joiner.f l0 l1 l2 = some (r1, r2)) :
    Calls Try.prog 33 #[.slice A0 l0.length c0, .slice A1 l1.length c1, .slice A2 l2.length c2] w fun e w' => ∃ v0_ : Value, e = .returned (.tuple #[v0_, .int .i64 r2]) ∧ Kd.R (Kd.int .u8) 5 w' w.heap.size (fun _ => True) v0_ r1 ∧ Below w.heap.size w w' := by
  unfold sched_Joiner.f at h
  split at h
  case isFalse => cases h
  case isTrue hok =>
  injection h with h
  obtain ⟨o0, o1, o2, n0, n1, n2⟩ := hok
  have hcw := c_two w 22 A0 A1 c0 c1 l0 l1 hr0 hc0 hr1 hc1
  have hb := (Below.refl w.heap.size w).alloc (Nat.le_refl _) (Obj.cells #[.slice A0 l0.length c0, .slice A1 l1.length c1] 22)
  have hm : kdf_Extract.f l0 l1 = some (macSum l0 l1) := mac_some l0 l1 o0 o1 (by omega) (by omega)
  have hl := lab_some (macSum l0 l1) labJoiner l2 (byteOk_macSum _ _) o2 (by rw [macSum_length]; omega) (by decide) n2
  have hwh := whole_some [l0, l1] (by simp)
  have H := Lib.hid (And.intro hcw (And.intro hb (And.intro hr0 (And.intro hr1 (And.intro hr2 (And.intro hm hl))))))
  clear hcw hb hr0 hr1 hr2 hm hl o0 o1 o2 n0 n1 n2
  by_cases h32 : l0.length = 32 ∧ l1.length = 32
  · rw [show [l0, l1].all row32 = true by simp [row32_true h32.1, row32_true h32.2]] at hwh
    rw [show joinerRes l0 l1 l2 = (joinerOf l0 l1 l2, 0) from if_pos h32] at h
    ·
      injection h with h1 h2
      subst h1 h2
      have HW := Lib.hid hwh
      clear hwh h32
      go_enter Try.func33, Try.ntmps33
      go_wp2_with fail
      refine (sched_whole.calls _ 2 [l0, l1] _ _ H.out.1 (Nat.le_refl _) HW.out).mono ?_
      rintro e w' ⟨rfl, ⟨nd, rfl⟩⟩
      have hw1 := pw_below_drewN H.out.2.1 nd
      have H1 := Lib.hid hw1
      clear hw1
      go_wp2_with fail
      refine (kdf_Extract.calls A0 c0 l0 A1 c1 l1 _ _ (Kd.C_below H.out.2.2.1 H1.out) hc0 (Kd.C_below H.out.2.2.2.1 H1.out) hc1 H.out.2.2.2.2.2.1).mono ?_
      rintro e W2 ⟨v2, rfl, hR2, hb2⟩
      obtain ⟨B2, d2, rfl, hd2, hC2⟩ := Kd.R_reads hR2
      have hw2 := H1.out.trans (hb2.mono H1.out.size)
      have H2 := Lib.hid (And.intro hC2 hw2)
      clear hC2 hw2 hR2 hb2 H1
      go_wp2_with fail
      refine (sched_label.calls B2 d2 _ labJoiner A2 c2 l2 _ _ H2.out.1 hd2 (Kd.C_below H.out.2.2.2.2.1 H2.out.2) hc2 H.out.2.2.2.2.2.2).mono ?_
      rintro e W5 ⟨v5, rfl, hR5, hb5⟩
      go_wp2
      go_ret2
      exact ⟨_, rfl, Kd.R_lower hR5 H2.out.2.size, H2.out.2.trans (hb5.mono H2.out.2.size)⟩
  · have hall : [l0, l1].all row32 = false := by
      by_cases q0 : l0.length = 32
      · simp [row32_false (fun q1 => h32 ⟨q0, q1⟩ : ¬ l1.length = 32)]
      · simp [row32_false q0]
    rw [hall] at hwh
    rw [show joinerRes l0 l1 l2 = ([], 1) from if_neg h32] at h
    clear hall
    ·
      injection h with h1 h2
      subst h1 h2
      have HW := Lib.hid hwh
      clear hwh h32
      go_enter Try.func33, Try.ntmps33
      go_wp2_with fail
      refine (sched_whole.calls _ 2 [l0, l1] _ _ H.out.1 (Nat.le_refl _) HW.out).mono ?_
      rintro e w' ⟨rfl, ⟨nd, rfl⟩⟩
      have hw1 := pw_below_drewN H.out.2.1 nd
      have H1 := Lib.hid hw1
      clear hw1
      go_wp2
      go_ret2
      exact ⟨_, rfl, Kd.R_nil _ _ _ _ _, H1.out⟩
def sched_Context.f (own : List Int) (epoch : Int) (tree log : List Int) : Option (List Int × Int) := if okThree own tree log then some (ctxRes own epoch tree log) else none
set_option maxRecDepth 100000 in
set_option maxHeartbeats 2000000 in
theorem sched_Context.calls (A0 : Option Addr) (c0 : Nat) (l0 : List Int) (a1 : Int) (A2 : Option Addr) (c2 : Nat) (l2 : List Int) (A3 : Option Addr) (c3 : Nat) (l3 : List Int) (r1 : List Int) (r2 : Int) (w : World) (hr0 : Kd.C (Kd.int .u8) w A0 l0.length l0) (hc0 : l0.length ≤ c0) (hr2 : Kd.C (Kd.int .u8) w A2 l2.length l2) (hc2 : l2.length ≤ c2) (hr3 : Kd.C (Kd.int .u8) w A3 l3.length l3) (hc3 : l3.length ≤ c3) (h : sched_Context.f l0 a1 l2 l3 = some (r1, r2)) :
    Calls Try.prog 31 #[.slice A0 l0.length c0, .int .i64 a1, .slice A2 l2.length c2, .slice A3 l3.length c3] w fun e w' => ∃ v0_ : Value, e = .returned (.tuple #[v0_, .int .i64 r2]) ∧ Kd.R (Kd.int .u8) 5 w' w.heap.size (fun _ => True) v0_ r1 ∧ Below w.heap.size w w' := by
  unfold sched_Context.f at h
  split at h
  case isFalse => cases h
  case isTrue hok =>
  injection h with h
  obtain ⟨o0, o1, o2, n0, n1, n2⟩ := hok
  have hbad : ¬ ctxIs l0 a1 l2 l3 → r1 = [] ∧ r2 = 1 := fun hn => by
    rw [ctxRes_no _ _ _ _ hn] at h
    injection h with h1 h2
    exact ⟨h1.symm, h2.symm⟩
  by_cases h0 : a1 < 0
  · obtain ⟨rfl, rfl⟩ := hbad (fun q => by have := q.1; omega)
    have d0 : decide (a1 < 0) = true := by simp [h0]
    clear hbad h
    go_enter Try.func31, Try.ntmps31
    go_wp2
    go_ret2
    exact ⟨_, rfl, Kd.R_nil _ _ _ _ _, Below.refl _ _⟩
  have d0 : decide (a1 < 0) = false := by simp; omega
  by_cases h1 : 281474976710656 ≤ a1
  · obtain ⟨rfl, rfl⟩ := hbad (fun q => by have := q.2.1; omega)
    have d1 : decide (281474976710656 ≤ a1) = true := by simp [h1]
    clear hbad h
    go_enter Try.func31, Try.ntmps31
    go_wp2
    go_ret2
    exact ⟨_, rfl, Kd.R_nil _ _ _ _ _, Below.refl _ _⟩
  have d1 : decide (281474976710656 ≤ a1) = false := by simp; omega
  by_cases h2 : 255 < l0.length
  · obtain ⟨rfl, rfl⟩ := hbad (fun q => by have := q.2.2.1; omega)
    have d2 : decide (255 < (l0.length : Int)) = true := by simp; omega
    clear hbad h
    go_enter Try.func31, Try.ntmps31
    go_wp2
    go_ret2
    exact ⟨_, rfl, Kd.R_nil _ _ _ _ _, Below.refl _ _⟩
  have d2 : decide (255 < (l0.length : Int)) = false := by simp; omega
  obtain ⟨n, rfl⟩ := Int.eq_ofNat_of_zero_le (show 0 ≤ a1 by omega)
  have hcw := c_two w 22 A2 A3 c2 c3 l2 l3 hr2 hc2 hr3 hc3
  have hb := (Below.refl w.heap.size w).alloc (Nat.le_refl _) (Obj.cells #[.slice A2 l2.length c2, .slice A3 l3.length c3] 22)
  have hwh := whole_some [l2, l3] (by simp)
  by_cases h32 : l2.length = 32 ∧ l3.length = 32
  · rw [show [l2, l3].all row32 = true by simp [row32_true h32.1, row32_true h32.2]] at hwh
    rw [ctxRes_yes _ _ _ _ ⟨by omega, by omega, by omega, h32.1, h32.2⟩] at h
    injection h with h1' h2'
    subst h1' h2'
    have hn : byt_Num.f (n : Int) 6 = some (numB n 6, 0) := congrArg some (num6_in n (by omega))
    have q1 := rows_some [l0] (by simp) (by simp; omega)
    have q2 := rows_some [l2, l3] (by simp) (by simp; omega)
    have m1 := rowB_length l0
    have m2 := rowB_length l2
    have m3 := rowB_length l3
    have m4 := numB_length n 6
    have hcc : slices_Concat.f [rowsB [l0], numB n 6, rowsB [l2, l3]] = some (ctxOf l0 n l2 l3) := by
      unfold slices_Concat.f
      have e : [rowsB [l0], numB n 6, rowsB [l2, l3]].flatten = ctxOf l0 n l2 l3 := by simp [rowsB, ctxOf]
      rw [e, if_pos (by unfold ctxOf; rw [List.length_append, List.length_append, List.length_append]; omega)]
    generalize rowsB [l0] = x1 at *
    generalize rowsB [l2, l3] = x2 at *
    generalize ctxOf l0 n l2 l3 = ctx at *
    have HN := Lib.hid (And.intro hn (And.intro q1 (And.intro q2 hcc)))
    have H := Lib.hid (And.intro hcw (And.intro hb (And.intro hr0 (And.intro hr2 (And.intro hr3 hwh)))))
    clear hbad hcw hb hr0 hr2 hr3 hwh hn q1 q2 hcc m1 m2 m3 m4 h32 o0 o1 o2 n0 n1 n2 h0 h1 h2
    go_enter Try.func31, Try.ntmps31
    go_wp2_with fail
    refine (sched_whole.calls _ 2 [l2, l3] _ _ H.out.1 (Nat.le_refl _) H.out.2.2.2.2.2).mono ?_
    rintro e w' ⟨rfl, ⟨nd, rfl⟩⟩
    have H1 := Lib.hid (pw_below_drewN H.out.2.1 nd)
    go_wp2_with fail
    refine (byt_Num.calls (n : Int) 6 _ 0 _ HN.out.1).mono ?_
    rintro e W2 ⟨v2, rfl, hR2, hb2⟩
    obtain ⟨B2, d2', rfl, hd2, hC2⟩ := Kd.R_reads hR2
    have hw2 := H1.out.trans (hb2.mono H1.out.size)
    have hcx := c_one W2 22 A0 c0 l0 (Kd.C_below H.out.2.2.1 hw2) hc0
    have hw3 := hw2.alloc hw2.size (Obj.cells #[.slice A0 l0.length c0] 22)
    have hC2 := Kd.C_alloc hC2 (Obj.cells #[.slice A0 l0.length c0] 22)
    have H2 := Lib.hid (And.intro hcx (And.intro hw3 hC2))
    clear hcx hw2 hw3 hC2 hR2 hb2 H1
    go_wp2_with fail
    refine (sched_rows.calls _ 1 [l0] x1 _ H2.out.1 (Nat.le_refl _) HN.out.2.1).mono ?_
    rintro e W3 ⟨v3, rfl, hR3, hb3⟩
    obtain ⟨B3, d3, rfl, hd3, hC3⟩ := Kd.R_reads hR3
    have hw3 := H2.out.2.1.trans (hb3.mono H2.out.2.1.size)
    have hC2 := Kd.C_alloc (Kd.C_below H2.out.2.2 hb3) (Obj.cells #[.slice A2 l2.length c2, .slice A3 l3.length c3] 22)
    have hC3 := Kd.C_alloc hC3 (Obj.cells #[.slice A2 l2.length c2, .slice A3 l3.length c3] 22)
    have hcx := c_two W3 22 A2 A3 c2 c3 l2 l3 (Kd.C_below H.out.2.2.2.1 hw3) hc2 (Kd.C_below H.out.2.2.2.2.1 hw3) hc3
    have hw4 := hw3.alloc hw3.size (Obj.cells #[.slice A2 l2.length c2, .slice A3 l3.length c3] 22)
    have H3 := Lib.hid (And.intro hcx (And.intro hw4 (And.intro hC2 hC3)))
    clear hcx hw3 hw4 hC2 hC3 hR3 hb3 H2
    go_wp2_with fail
    refine (sched_rows.calls _ 2 [l2, l3] x2 _ H3.out.1 (Nat.le_refl _) HN.out.2.2.1).mono ?_
    rintro e W5 ⟨v5, rfl, hR5, hb5⟩
    obtain ⟨B5, d5, rfl, hd5, hC5⟩ := Kd.R_reads hR5
    have hw5 := H3.out.2.1.trans (hb5.mono H3.out.2.1.size)
    have hC2 := Kd.C_below H3.out.2.2.1 hb5
    have hC3 := Kd.C_below H3.out.2.2.2 hb5
    have hcx := c_three W5 22 B3 B2 B5 d3 d2' d5 x1 (numB n 6) x2 hC3 hd3 hC2 hd2 hC5 hd5
    have hw6 := hw5.alloc hw5.size (Obj.cells #[.slice B3 x1.length d3, .slice B2 (numB n 6).length d2', .slice B5 x2.length d5] 22)
    have H5 := Lib.hid (And.intro hcx hw6)
    clear hcx hw5 hw6 hC2 hC3 hC5 hR5 hb5 H3
    go_wp2_with fail
    refine (slices_Concat.calls _ 3 [x1, numB n 6, x2] ctx _ H5.out.1 (Nat.le_refl _) HN.out.2.2.2).mono ?_
    rintro e W7 ⟨v7, rfl, hR7, hb7⟩
    go_wp2
    go_ret2
    exact ⟨_, rfl, Kd.R_lower hR7 H5.out.2.size, H5.out.2.trans (hb7.mono H5.out.2.size)⟩
  · obtain ⟨rfl, rfl⟩ := hbad (fun q => h32 ⟨q.2.2.2.1, q.2.2.2.2⟩)
    have hall : [l2, l3].all row32 = false := by
      by_cases q0 : l2.length = 32
      · simp [row32_false (fun q1 => h32 ⟨q0, q1⟩ : ¬ l3.length = 32)]
      · simp [row32_false q0]
    rw [hall] at hwh
    have H := Lib.hid (And.intro hcw (And.intro hb hwh))
    clear hbad h hcw hb hr0 hr2 hr3 hwh hall h32 o0 o1 o2 n0 n1 n2 h0 h1 h2
    go_enter Try.func31, Try.ntmps31
    go_wp2_with fail
    refine (sched_whole.calls _ 2 [l2, l3] _ _ H.out.1 (Nat.le_refl _) H.out.2.2).mono ?_
    rintro e w' ⟨rfl, ⟨nd, rfl⟩⟩
    have H1 := Lib.hid (pw_below_drewN H.out.2.1 nd)
    go_wp2
    go_ret2
    exact ⟨_, rfl, Kd.R_nil _ _ _ _ _, H1.out⟩
end P
end Go.Proofs.Ytpdgeanicciaiaa

/-! SchedH -/
namespace Go.Proofs.Ytpdgeanicciaiaa
set_option linter.unusedVariables false
set_option linter.unusedSimpArgs false
open Go.RowKit Go.Proofs.YtpdgeanicciaiaaW.PrintWords Go.Proofs.YtpdgeanicciaiaaW.PrintLast Go.Proofs.YtpdgeanicciaiaaW.PrintMore Iter
theorem num6_out (x : Int) (h : ¬ (0 ≤ x ∧ x < 281474976710656)) : numOf x 6 = ([], 1) := numOf_bad _ _ (fun hk => h ⟨hk.2.2.1, by
  have := hk.2.2.2
  rw [show ((6 : Int)).toNat = 6 from rfl, show (256 : Int) ^ 6 = 281474976710656 from by decide] at this
  exact this⟩)
theorem e_row (x : List Int) (h : x.length ≤ 100000) : E.pyxref12_row.f x = some (rowB x) := by
  unfold E.pyxref12_row.f P.pyxref01_Row.f
  rw [rowOf_small x (by omega), Option.bind_some]
theorem e_ctx (own : List Int) (epoch : Int) (tree log : List Int) (ok : P.okThree own tree log) : E.pyxref12_Context.f 1 own epoch tree log = some (ctxRes own epoch tree log) := by
  obtain ⟨o0, o1, o2, n0, n1, n2⟩ := ok
  have hbad : ∀ x, E.pyxref12_Context.j0 1 own tree log x true = some ([], 1) := fun x => by rw [E.pyxref12_Context.j0, if_pos rfl]
  unfold E.pyxref12_Context.f P.pyxref01_Num.f
  rw [Option.bind_some]
  by_cases h0 : 0 ≤ epoch ∧ epoch < 281474976710656
  · obtain ⟨n, rfl⟩ := Int.eq_ofNat_of_zero_le h0.1
    rw [num6_in n (by omega), if_pos rfl]
    by_cases h2 : (own.length : Int) > 255
    · rw [if_pos h2, hbad, ctxRes_no _ _ _ _ (fun h => by have := h.2.2.1; omega)]
    rw [if_neg h2]
    by_cases h3 : tree.length = 32
    · rw [if_pos (by omega)]
      by_cases h4 : log.length = 32
      · rw [show ((log.length : Int) != 32) = false by rw [bne_eq_false_iff_eq]; omega, ctxRes_yes _ _ _ _ ⟨by omega, by omega, by omega, h3, h4⟩]
        have l1 := rowB_length own
        have l2 := rowB_length tree
        have l3 := rowB_length log
        have l4 := numB_length n 6
        have m0 : ([] : List Int).length = 0 := rfl
        have m1 : (rowB own ++ numB n 6).length = (rowB own).length + (numB n 6).length := List.length_append
        have m2 : (rowB own ++ numB n 6 ++ rowB tree).length = (rowB own).length + (numB n 6).length + (rowB tree).length := by rw [List.length_append, m1]
        rw [E.pyxref12_Context.j0, if_neg (by simp), Option.bind_some, e_row own (by omega), Option.bind_some, if_pos (by omega), Option.bind_some, List.nil_append]
        dsimp only
        rw [if_pos (by omega), Option.bind_some, e_row tree (by omega), Option.bind_some, if_pos (by omega), Option.bind_some, e_row log (by omega), Option.bind_some, if_pos (by omega)]
        rfl
      · rw [show ((log.length : Int) != 32) = true by rw [bne_iff_ne]; omega, hbad, ctxRes_no _ _ _ _ (fun h => h4 h.2.2.2.2)]
    · rw [if_neg (by omega), hbad, ctxRes_no _ _ _ _ (fun h => h3 h.2.2.2.1)]
  · rw [num6_out epoch h0, if_neg (by simp), hbad, ctxRes_no _ _ _ _ (fun h => h0 ⟨h.1, h.2.1⟩)]
theorem e_joiner (a b c : List Int) (ok : P.okThree a b c) : E.pyxref12_Joiner.f 1 a b c = some (joinerRes a b c) := by
  obtain ⟨o0, o1, o2, n0, n1, n2⟩ := ok
  have hbad : E.pyxref12_Joiner.j0 1 a b c true = some ([], 1) := by rw [E.pyxref12_Joiner.j0, if_pos rfl]
  unfold E.pyxref12_Joiner.f joinerRes
  by_cases h3 : a.length = 32
  · rw [if_pos (by omega)]
    by_cases h4 : b.length = 32
    · have hm : P.pyxref04_Extract.f a b = some (macSum a b) := refSum_some a b o0 o1 (by omega) (by omega)
      have hl := e_reflabel (macSum a b) labJoiner c (byteOk_macSum _ _) o2 (by rw [macSum_length]; omega) (by decide) n2
      rw [show ((b.length : Int) != 32) = false by rw [bne_eq_false_iff_eq]; omega, if_pos ⟨h3, h4⟩, E.pyxref12_Joiner.j0, if_neg (by simp), hm, Option.bind_some, show (⟨#[106, 111, 105, 110, 101, 114]⟩ : ByteArray) = labJoiner from rfl, hl, Option.bind_some]
      rfl
    · rw [show ((b.length : Int) != 32) = true by rw [bne_iff_ne]; omega, hbad, if_neg (fun h => h4 h.2)]
  · rw [if_neg (by omega), hbad, if_neg (fun h => h3 h.1)]
theorem e_epoch (a b c : List Int) (ok : P.epochOk a b c) : E.pyxref12_Epoch.f 1 a b c = some (P.epochRows a b c) := by
  obtain ⟨o0, o1, o2, n0, n1, n2⟩ := ok
  have hbad : E.pyxref12_Epoch.j0 1 a b c true = some ([], [], [], [], [], 1) := by rw [E.pyxref12_Epoch.j0, if_pos rfl]
  unfold E.pyxref12_Epoch.f P.epochRows
  by_cases h3 : a.length = 32
  · rw [if_pos (by omega)]
    by_cases h4 : b.length = 32
    · have hm : P.pyxref04_Extract.f a b = some (macSum a b) := refSum_some a b o0 o1 (by omega) (by omega)
      have hl := e_reflabel (macSum a b) labEpoch c (byteOk_macSum _ _) o2 (by rw [macSum_length]; omega) (by decide) n2
      have hown : labelOf (macSum a b) labEpoch c 32 = ownOf a b c := rfl
      have ho : byteOk (ownOf a b c) = true := byteOk_labelOf _ _ _ _
      have hol : (ownOf a b c).length = 32 := labelOf_length _ _ _ _
      rw [hown] at hl
      have hout : ∀ k, P.pyxref04_Out.f (ownOf a b c) (labs k) = some (epRow (ownOf a b c) k) := fun k => by
        unfold P.pyxref04_Out.f
        rw [if_pos ⟨ho, by omega, labs_size k⟩]
        rfl
      rw [show ((b.length : Int) != 32) = false by rw [bne_eq_false_iff_eq]; omega, if_pos ⟨h3, h4⟩, E.pyxref12_Epoch.j0, if_neg (by simp), hm, Option.bind_some, show (⟨#[101, 112, 111, 99, 104]⟩ : ByteArray) = labEpoch from rfl, hl, Option.bind_some,
        show (⟨#[105, 110, 105, 116]⟩ : ByteArray) = labs 0 from rfl, hout 0, Option.bind_some, show (⟨#[115, 101, 110, 100]⟩ : ByteArray) = labs 1 from rfl, hout 1, Option.bind_some, show (⟨#[101, 120, 112, 111, 114, 116]⟩ : ByteArray) = labs 2 from rfl, hout 2, Option.bind_some,
        show (⟨#[99, 111, 110, 102, 105, 114, 109]⟩ : ByteArray) = labs 3 from rfl, hout 3, Option.bind_some, show (⟨#[114, 101, 115, 117, 109, 101]⟩ : ByteArray) = labs 4 from rfl, hout 4, Option.bind_some]
    · rw [show ((b.length : Int) != 32) = true by rw [bne_iff_ne]; omega, hbad, if_neg (fun h => h4 h.2)]
  · rw [if_neg (by omega), hbad, if_neg (fun h => h3 h.1)]
/-- Has each of an epoch's secrets 32 bytes? -/
theorem e_right (a b c d e : List Int) : E.pyxref12_Right.f a b c d e = some ([a, b, c, d, e].all row32) := by
  unfold E.pyxref12_Right.f
  by_cases h0 : a.length = 32
  · rw [if_pos (by omega)]
    by_cases h1 : b.length = 32
    · rw [if_pos (by omega)]
      by_cases h2 : c.length = 32
      · rw [if_pos (by omega)]
        by_cases h3 : d.length = 32
        · rw [if_pos (by omega)]
          by_cases h4 : e.length = 32
          · simp [row32_true h0, row32_true h1, row32_true h2, row32_true h3, row32_true h4, h4]
          · simp [row32_true h0, row32_true h1, row32_true h2, row32_true h3, row32_false h4]
            omega
        · rw [if_neg (by omega)]
          simp [row32_false h3]
      · rw [if_neg (by omega)]
        simp [row32_false h2]
    · rw [if_neg (by omega)]
      simp [row32_false h1]
  · rw [if_neg (by omega)]
    simp [row32_false h0]
namespace P
def pyxref12_Context.f (own : List Int) (epoch : Int) (tree log : List Int) : Option (List Int × Int) := sched_Context.f own epoch tree log
theorem pyxref12_Context.calls (A0 : Option Addr) (c0 : Nat) (l0 : List Int) (a1 : Int) (A2 : Option Addr) (c2 : Nat) (l2 : List Int) (A3 : Option Addr) (c3 : Nat) (l3 : List Int) (r1 : List Int) (r2 : Int) (w : World) (hr0 : Kd.C (Kd.int .u8) w A0 l0.length l0) (hc0 : l0.length ≤ c0) (hr2 : Kd.C (Kd.int .u8) w A2 l2.length l2) (hc2 : l2.length ≤ c2) (hr3 : Kd.C (Kd.int .u8) w A3 l3.length l3) (hc3 : l3.length ≤ c3) (h : pyxref12_Context.f l0 a1 l2 l3 = some (r1, r2)) :
    Calls Try.prog 32 #[.slice A0 l0.length c0, .int .i64 a1, .slice A2 l2.length c2, .slice A3 l3.length c3] w fun e w' => ∃ v0_ : Value, e = .returned (.tuple #[v0_, .int .i64 r2]) ∧ Kd.R (Kd.int .u8) 5 w' w.heap.size (fun _ => True) v0_ r1 ∧ Below w.heap.size w w' := by
  unfold pyxref12_Context.f sched_Context.f at h
  split at h
  case isFalse => cases h
  case isTrue hok => exact E.pyxref12_Context.calls 1 A0 c0 l0 a1 A2 c2 l2 A3 c3 l3 r1 r2 w hr0 hc0 hr2 hc2 hr3 hc3 ((e_ctx l0 a1 l2 l3 hok).trans h)
def pyxref12_Joiner.f (a b c : List Int) : Option (List Int × Int) := sched_Joiner.f a b c
theorem pyxref12_Joiner.calls (A0 : Option Addr) (c0 : Nat) (l0 : List Int) (A1 : Option Addr) (c1 : Nat) (l1 : List Int) (A2 : Option Addr) (c2 : Nat) (l2 : List Int) (r1 : List Int) (r2 : Int) (w : World) (hr0 : Kd.C (Kd.int .u8) w A0 l0.length l0) (hc0 : l0.length ≤ c0) (hr1 : Kd.C (Kd.int .u8) w A1 l1.length l1) (hc1 : l1.length ≤ c1) (hr2 : Kd.C (Kd.int .u8) w A2 l2.length l2) (hc2 : l2.length ≤ c2) (h : pyxref12_Joiner.f l0 l1 l2 = some (r1, r2)) :
    Calls Try.prog 34 #[.slice A0 l0.length c0, .slice A1 l1.length c1, .slice A2 l2.length c2] w fun e w' => ∃ v0_ : Value, e = .returned (.tuple #[v0_, .int .i64 r2]) ∧ Kd.R (Kd.int .u8) 5 w' w.heap.size (fun _ => True) v0_ r1 ∧ Below w.heap.size w w' := by
  unfold pyxref12_Joiner.f sched_Joiner.f at h
  split at h
  case isFalse => cases h
  case isTrue hok => exact E.pyxref12_Joiner.calls 1 A0 c0 l0 A1 c1 l1 A2 c2 l2 r1 r2 w hr0 hc0 hr1 hc1 hr2 hc2 ((e_joiner l0 l1 l2 hok).trans h)
def pyxref12_Epoch.f (a b c : List Int) : Option (List Int × List Int × List Int × List Int × List Int × Int) := sched_Epoch.f a b c
theorem pyxref12_Epoch.calls (A0 : Option Addr) (c0 : Nat) (l0 : List Int) (A1 : Option Addr) (c1 : Nat) (l1 : List Int) (A2 : Option Addr) (c2 : Nat) (l2 : List Int) (r1 : List Int) (r2 : List Int) (r3 : List Int) (r4 : List Int) (r5 : List Int) (r6 : Int) (w : World) (hr0 : Kd.C (Kd.int .u8) w A0 l0.length l0) (hc0 : l0.length ≤ c0) (hr1 : Kd.C (Kd.int .u8) w A1 l1.length l1) (hc1 : l1.length ≤ c1) (hr2 : Kd.C (Kd.int .u8) w A2 l2.length l2) (hc2 : l2.length ≤ c2) (h : pyxref12_Epoch.f l0 l1 l2 = some (r1, r2, r3, r4, r5, r6)) :
    Calls Try.prog 36 #[.slice A0 l0.length c0, .slice A1 l1.length c1, .slice A2 l2.length c2] w fun e w' => ∃ v0_ v1_ v2_ v3_ v4_ : Value, e = .returned (.tuple #[.agg #[v0_, v1_, v2_, v3_, v4_], .int .i64 r6]) ∧ Kd.R (Kd.int .u8) 5 w' w.heap.size (fun k_ => some k_ ≠ (v1_ : Value).ownBlock ∧ some k_ ≠ (v2_ : Value).ownBlock ∧ some k_ ≠ (v3_ : Value).ownBlock ∧ some k_ ≠ (v4_ : Value).ownBlock) v0_ r1 ∧ Kd.R (Kd.int .u8) 5 w' w.heap.size (fun k_ => some k_ ≠ (v0_ : Value).ownBlock ∧ some k_ ≠ (v2_ : Value).ownBlock ∧ some k_ ≠ (v3_ : Value).ownBlock ∧ some k_ ≠ (v4_ : Value).ownBlock) v1_ r2 ∧ Kd.R (Kd.int .u8) 5 w' w.heap.size (fun k_ => some k_ ≠ (v0_ : Value).ownBlock ∧ some k_ ≠ (v1_ : Value).ownBlock ∧ some k_ ≠ (v3_ : Value).ownBlock ∧ some k_ ≠ (v4_ : Value).ownBlock) v2_ r3 ∧ Kd.R (Kd.int .u8) 5 w' w.heap.size (fun k_ => some k_ ≠ (v0_ : Value).ownBlock ∧ some k_ ≠ (v1_ : Value).ownBlock ∧ some k_ ≠ (v2_ : Value).ownBlock ∧ some k_ ≠ (v4_ : Value).ownBlock) v3_ r4 ∧ Kd.R (Kd.int .u8) 5 w' w.heap.size (fun k_ => some k_ ≠ (v0_ : Value).ownBlock ∧ some k_ ≠ (v1_ : Value).ownBlock ∧ some k_ ≠ (v2_ : Value).ownBlock ∧ some k_ ≠ (v3_ : Value).ownBlock) v4_ r5 ∧ Below w.heap.size w w' := by
  unfold pyxref12_Epoch.f sched_Epoch.f at h
  split at h
  case isFalse => cases h
  case isTrue hok => exact E.pyxref12_Epoch.calls 1 A0 c0 l0 A1 c1 l1 A2 c2 l2 r1 r2 r3 r4 r5 r6 w hr0 hc0 hr1 hc1 hr2 hc2 ((e_epoch l0 l1 l2 hok).trans h)
def pyxref12_Right.f (l0_0 l0_1 l0_2 l0_3 l0_4 : List Int) : Option Bool := some ([l0_0, l0_1, l0_2, l0_3, l0_4].all row32)
theorem pyxref12_Right.calls (A0_0 : Option Addr) (c0_0 : Nat) (l0_0 : List Int) (A0_1 : Option Addr) (c0_1 : Nat) (l0_1 : List Int) (A0_2 : Option Addr) (c0_2 : Nat) (l0_2 : List Int) (A0_3 : Option Addr) (c0_3 : Nat) (l0_3 : List Int) (A0_4 : Option Addr) (c0_4 : Nat) (l0_4 : List Int) (r : Bool) (w : World) (hr0_0 : Kd.C (Kd.int .u8) w A0_0 l0_0.length l0_0) (hc0_0 : l0_0.length ≤ c0_0) (hr0_1 : Kd.C (Kd.int .u8) w A0_1 l0_1.length l0_1) (hc0_1 : l0_1.length ≤ c0_1) (hr0_2 : Kd.C (Kd.int .u8) w A0_2 l0_2.length l0_2) (hc0_2 : l0_2.length ≤ c0_2) (hr0_3 : Kd.C (Kd.int .u8) w A0_3 l0_3.length l0_3) (hc0_3 : l0_3.length ≤ c0_3) (hr0_4 : Kd.C (Kd.int .u8) w A0_4 l0_4.length l0_4) (hc0_4 : l0_4.length ≤ c0_4) (h : pyxref12_Right.f l0_0 l0_1 l0_2 l0_3 l0_4 = some r) :
    Calls Try.prog 48 #[.agg #[.slice A0_0 l0_0.length c0_0, .slice A0_1 l0_1.length c0_1, .slice A0_2 l0_2.length c0_2, .slice A0_3 l0_3.length c0_3, .slice A0_4 l0_4.length c0_4]] w fun e w' => e = .returned (.bool r) ∧ Below w.heap.size w w' :=
  E.pyxref12_Right.calls A0_0 c0_0 l0_0 A0_1 c0_1 l0_1 A0_2 c0_2 l0_2 A0_3 c0_3 l0_3 A0_4 c0_4 l0_4 r w hr0_0 hc0_0 hr0_1 hc0_1 hr0_2 hc0_2 hr0_3 hc0_3 hr0_4 hc0_4 ((e_right l0_0 l0_1 l0_2 l0_3 l0_4).trans h)
def pyxref12_Same.f (l0_0 l0_1 l0_2 l0_3 l0_4 l1_0 l1_1 l1_2 l1_3 l1_4 : List Int) : Option Bool := sched_Same.f l0_0 l0_1 l0_2 l0_3 l0_4 l1_0 l1_1 l1_2 l1_3 l1_4
theorem e_same (l0_0 l1_0 : List Int) (a0 : byteOk l0_0 = true) (b0 : byteOk l1_0 = true) (l0_1 l1_1 : List Int) (a1 : byteOk l0_1 = true) (b1 : byteOk l1_1 = true) (l0_2 l1_2 : List Int) (a2 : byteOk l0_2 = true) (b2 : byteOk l1_2 = true) (l0_3 l1_3 : List Int) (a3 : byteOk l0_3 = true) (b3 : byteOk l1_3 = true) (l0_4 l1_4 : List Int) (a4 : byteOk l0_4 = true) (b4 : byteOk l1_4 = true) : E.pyxref12_Same.f l0_0 l0_1 l0_2 l0_3 l0_4 l1_0 l1_1 l1_2 l1_3 l1_4 = some ([l0_0, l0_1, l0_2, l0_3, l0_4] == [l1_0, l1_1, l1_2, l1_3, l1_4]) := by
  unfold E.pyxref12_Same.f
  have e0 : P.pyxref01_Same.f l0_0 l1_0 = some (l0_0 == l1_0) := by unfold P.pyxref01_Same.f; rw [if_pos ⟨a0, b0⟩]
  have e1 : P.pyxref01_Same.f l0_1 l1_1 = some (l0_1 == l1_1) := by unfold P.pyxref01_Same.f; rw [if_pos ⟨a1, b1⟩]
  have e2 : P.pyxref01_Same.f l0_2 l1_2 = some (l0_2 == l1_2) := by unfold P.pyxref01_Same.f; rw [if_pos ⟨a2, b2⟩]
  have e3 : P.pyxref01_Same.f l0_3 l1_3 = some (l0_3 == l1_3) := by unfold P.pyxref01_Same.f; rw [if_pos ⟨a3, b3⟩]
  have e4 : P.pyxref01_Same.f l0_4 l1_4 = some (l0_4 == l1_4) := by unfold P.pyxref01_Same.f; rw [if_pos ⟨a4, b4⟩]
  rw [e0, Option.bind_some]
  by_cases h0 : l0_0 = l1_0
  · rw [if_pos (by simpa using h0), e1, Option.bind_some]
    by_cases h1 : l0_1 = l1_1
    · rw [if_pos (by simpa using h1), e2, Option.bind_some]
      by_cases h2 : l0_2 = l1_2
      · rw [if_pos (by simpa using h2), e3, Option.bind_some]
        by_cases h3 : l0_3 = l1_3
        · rw [if_pos (by simpa using h3), e4, Option.bind_some]
          congr 1
          rw [Bool.eq_iff_iff]
          simp [h0, h1, h2, h3]
        · rw [if_neg (by simpa using h3)]
          congr 1
          symm
          rw [beq_eq_false_iff_ne]
          intro q
          simp only [List.cons.injEq] at q
          exact h3 q.2.2.2.1
      · rw [if_neg (by simpa using h2)]
        congr 1
        symm
        rw [beq_eq_false_iff_ne]
        intro q
        simp only [List.cons.injEq] at q
        exact h2 q.2.2.1
    · rw [if_neg (by simpa using h1)]
      congr 1
      symm
      rw [beq_eq_false_iff_ne]
      intro q
      simp only [List.cons.injEq] at q
      exact h1 q.2.1
  · rw [if_neg (by simpa using h0)]
    congr 1
    symm
    rw [beq_eq_false_iff_ne]
    intro q
    simp only [List.cons.injEq] at q
    exact h0 q.1
theorem pyxref12_Same.calls (A0_0 : Option Addr) (c0_0 : Nat) (l0_0 : List Int) (A0_1 : Option Addr) (c0_1 : Nat) (l0_1 : List Int) (A0_2 : Option Addr) (c0_2 : Nat) (l0_2 : List Int) (A0_3 : Option Addr) (c0_3 : Nat) (l0_3 : List Int) (A0_4 : Option Addr) (c0_4 : Nat) (l0_4 : List Int) (A1_0 : Option Addr) (c1_0 : Nat) (l1_0 : List Int) (A1_1 : Option Addr) (c1_1 : Nat) (l1_1 : List Int) (A1_2 : Option Addr) (c1_2 : Nat) (l1_2 : List Int) (A1_3 : Option Addr) (c1_3 : Nat) (l1_3 : List Int) (A1_4 : Option Addr) (c1_4 : Nat) (l1_4 : List Int) (r : Bool) (w : World) (hr0_0 : Kd.C (Kd.int .u8) w A0_0 l0_0.length l0_0) (hc0_0 : l0_0.length ≤ c0_0) (hr0_1 : Kd.C (Kd.int .u8) w A0_1 l0_1.length l0_1) (hc0_1 : l0_1.length ≤ c0_1) (hr0_2 : Kd.C (Kd.int .u8) w A0_2 l0_2.length l0_2) (hc0_2 : l0_2.length ≤ c0_2) (hr0_3 : Kd.C (Kd.int .u8) w A0_3 l0_3.length l0_3) (hc0_3 : l0_3.length ≤ c0_3) (hr0_4 : Kd.C (Kd.int .u8) w A0_4 l0_4.length l0_4) (hc0_4 : l0_4.length ≤ c0_4) (hr1_0 : Kd.C (Kd.int .u8) w A1_0 l1_0.length l1_0) (hc1_0 : l1_0.length ≤ c1_0) (hr1_1 : Kd.C (Kd.int .u8) w A1_1 l1_1.length l1_1) (hc1_1 : l1_1.length ≤ c1_1) (hr1_2 : Kd.C (Kd.int .u8) w A1_2 l1_2.length l1_2) (hc1_2 : l1_2.length ≤ c1_2) (hr1_3 : Kd.C (Kd.int .u8) w A1_3 l1_3.length l1_3) (hc1_3 : l1_3.length ≤ c1_3) (hr1_4 : Kd.C (Kd.int .u8) w A1_4 l1_4.length l1_4) (hc1_4 : l1_4.length ≤ c1_4) (h : pyxref12_Same.f l0_0 l0_1 l0_2 l0_3 l0_4 l1_0 l1_1 l1_2 l1_3 l1_4 = some r) :
    Calls Try.prog 37 #[.agg #[.slice A0_0 l0_0.length c0_0, .slice A0_1 l0_1.length c0_1, .slice A0_2 l0_2.length c0_2, .slice A0_3 l0_3.length c0_3, .slice A0_4 l0_4.length c0_4], .agg #[.slice A1_0 l1_0.length c1_0, .slice A1_1 l1_1.length c1_1, .slice A1_2 l1_2.length c1_2, .slice A1_3 l1_3.length c1_3, .slice A1_4 l1_4.length c1_4]] w fun e w' => e = .returned (.bool r) ∧ Below w.heap.size w w' := by
  unfold pyxref12_Same.f sched_Same.f at h
  split at h
  case isFalse => cases h
  case isTrue hok =>
  obtain ⟨h0, h1⟩ := hok
  simp only [List.all_cons, List.all_nil, Bool.and_true, Bool.and_eq_true] at h0 h1
  exact E.pyxref12_Same.calls A0_0 c0_0 l0_0 A0_1 c0_1 l0_1 A0_2 c0_2 l0_2 A0_3 c0_3 l0_3 A0_4 c0_4 l0_4 A1_0 c1_0 l1_0 A1_1 c1_1 l1_1 A1_2 c1_2 l1_2 A1_3 c1_3 l1_3 A1_4 c1_4 l1_4 r w hr0_0 hc0_0 hr0_1 hc0_1 hr0_2 hc0_2 hr0_3 hc0_3 hr0_4 hc0_4 hr1_0 hc1_0 hr1_1 hc1_1 hr1_2 hc1_2 hr1_3 hc1_3 hr1_4 hc1_4 ((e_same l0_0 l1_0 h0.1 h1.1 l0_1 l1_1 h0.2.1 h1.2.1 l0_2 l1_2 h0.2.2.1 h1.2.2.1 l0_3 l1_3 h0.2.2.2.1 h1.2.2.2.1 l0_4 l1_4 h0.2.2.2.2 h1.2.2.2.2).trans h)
end P
end Go.Proofs.Ytpdgeanicciaiaa

/-! SchedI -/
namespace Go.Proofs.Ytpdgeanicciaiaa
set_option linter.unusedVariables false
set_option linter.unusedSimpArgs false
open Go.RowKit Go.Proofs.YtpdgeanicciaiaaW.PrintWords Go.Proofs.YtpdgeanicciaiaaW.PrintLast Go.Proofs.YtpdgeanicciaiaaW.PrintMore Iter
def zero32 : List Int := List.replicate 32 0
theorem zero32_ok : byteOk zero32 = true := by decide
theorem zero32_len : zero32.length = 32 := rfl
theorem same_some (x y : List Int) (hx : byteOk x = true) (hy : byteOk y = true) : P.pyxref01_Same.f x y = some (x == y) := by
  unfold P.pyxref01_Same.f
  rw [if_pos ⟨hx, hy⟩]
theorem epRow_length (s : List Int) (k : Nat) : (epRow s k).length = 32 := labelOf_length _ _ _ _
theorem byteOk_epRow (s : List Int) (k : Nat) : byteOk (epRow s k) = true := byteOk_labelOf _ _ _ _
theorem ep_right (s : List Int) : [epRow s 0, epRow s 1, epRow s 2, epRow s 3, epRow s 4].all row32 = true := by
  simp [row32_true (epRow_length s _)]
theorem ep_ok (s : List Int) : [epRow s 0, epRow s 1, epRow s 2, epRow s 3, epRow s 4].all byteOk = true := by
  simp [byteOk_epRow]
theorem ctx_shown : P.sched_Context.f [1] 2 zero32 zero32 = some (ctxOf [1] 2 zero32 zero32, 0) := by
  unfold P.sched_Context.f
  rw [if_pos ⟨by decide, by decide, by decide, by decide, by decide, by decide⟩]
  rfl
theorem ctx_shown_len : (ctxOf [1] 2 zero32 zero32).length = 74 := by decide +kernel
theorem ctx_shown_ok : byteOk (ctxOf [1] 2 zero32 zero32) = true := by decide +kernel
theorem hs_shared : P.sched_Shared.f [] = some zero32 := by
  unfold P.sched_Shared.f
  rw [if_pos ⟨⟨by simp, by simp⟩, rfl⟩]
  rfl
namespace P
def pyxlaw12_shown.f : Option Bool := some true
set_option maxRecDepth 100000 in
set_option maxHeartbeats 4000000 in
theorem pyxlaw12_shown.calls (r : Bool) (w : World) (h : pyxlaw12_shown.f = some r) :
    Calls Try.prog 29 #[] w fun e w' => e = .returned (.bool r) ∧ Below w.heap.size w w' := by
  injection h with h
  subst h
  have z := zero32_ok
  have zl := zero32_len
  have cs := ctx_shown
  have cl := ctx_shown_len
  have co := ctx_shown_ok
  generalize ctxOf [1] 2 zero32 zero32 = ctx at *
  have hj : sched_Joiner.f zero32 zero32 ctx = some (joinerOf zero32 zero32 ctx, 0) := by
    unfold sched_Joiner.f
    rw [if_pos ⟨z, z, co, by omega, by omega, by omega⟩]
    rfl
  have jl : (joinerOf zero32 zero32 ctx).length = 32 := labelOf_length _ _ _ _
  have jo : byteOk (joinerOf zero32 zero32 ctx) = true := byteOk_labelOf _ _ _ _
  generalize joinerOf zero32 zero32 ctx = j at *
  have he : sched_Epoch.f j zero32 ctx = some (epRow (ownOf j zero32 ctx) 0, epRow (ownOf j zero32 ctx) 1, epRow (ownOf j zero32 ctx) 2, epRow (ownOf j zero32 ctx) 3, epRow (ownOf j zero32 ctx) 4, 0) := by
    unfold sched_Epoch.f
    rw [if_pos ⟨jo, z, co, by omega, by omega, by omega⟩]
    exact congrArg some (if_pos ⟨jl, zl⟩)
  generalize ownOf j zero32 ctx = own at *
  have hr := ep_right own
  have ho := ep_ok own
  have l0 := epRow_length own 0
  have l1 := epRow_length own 1
  have o2 := byteOk_epRow own 2
  have l2 := epRow_length own 2
  have o3 := byteOk_epRow own 3
  have l3 := epRow_length own 3
  have l4 := epRow_length own 4
  generalize epRow own 0 = r0 at *
  generalize epRow own 1 = r1 at *
  generalize epRow own 2 = r2 at *
  generalize epRow own 3 = r3 at *
  generalize epRow own 4 = r4 at *
  have hl : sched_Log.f zero32 [] [] = some (logOf zero32 [] [], 0) := by
    unfold sched_Log.f
    rw [if_pos ⟨z, rfl, rfl, by omega, by simp, by simp⟩]
    exact congrArg some (if_pos zl)
  have ll := logOf_length zero32 [] []
  have lo := byteOk_logOf zero32 [] []
  generalize logOf zero32 [] [] = lg at *
  have hp : sched_Proof.f r0 r1 r2 r3 r4 lg = some (macSum r3 lg, 0) := by
    unfold sched_Proof.f
    rw [if_pos ⟨o3, lo, by omega, by omega⟩, hr]
    exact congrArg some (if_pos ⟨rfl, ll⟩)
  have pl := macSum_length r3 lg
  generalize macSum r3 lg = pf at *
  have hx : ∃ x : List Int, sched_Export.f r0 r1 r2 r3 r4 (⟨#[97]⟩ : ByteArray) [] 7 = some (x, 0) ∧ x.length = 7 := by
    refine ⟨labelOf (labelOf r2 ⟨#[97]⟩ [] 32) labExported (dig []) 7, ?_, labelOf_length _ _ _ _⟩
    unfold sched_Export.f
    rw [if_pos ⟨o2, rfl, by omega, by decide, by simp⟩, hr]
    exact congrArg some (if_pos ⟨rfl, by omega, by omega⟩)
  obtain ⟨x, hx, xl⟩ := hx
  have hsame : sched_Same.f r0 r1 r2 r3 r4 r0 r1 r2 r3 r4 = some true := by
    unfold sched_Same.f
    rw [if_pos ⟨ho, ho⟩, beq_self_eq_true]
  have hdiff : sched_Same.f r0 r1 r2 r3 r4 [] [] [] [] [] = some false := by
    unfold sched_Same.f
    rw [if_pos ⟨ho, rfl⟩]
    congr 1
    rw [beq_eq_false_iff_ne]
    intro q
    simp only [List.cons.injEq] at q
    rw [q.1] at l0
    cases l0
  have hz : pyxref01_Same.f zero32 zero32 = some true := by rw [same_some _ _ z z, beq_self_eq_true]
  have HF := Lib.hid (And.intro cs (And.intro hj (And.intro he (And.intro hl (And.intro hp (And.intro hx (And.intro hsame (And.intro hdiff hz))))))))
  have HL := Lib.hid (And.intro cl (And.intro jl (And.intro l0 (And.intro l1 (And.intro l2 (And.intro l3 (And.intro l4 (And.intro ll (And.intro pl xl)))))))))
  clear cs hj he hl hp hx hsame hdiff hz cl jl l0 l1 l2 l3 l4 ll pl xl z zl co jo hr ho o2 o3 lo
  go_enter Try.func29, Try.ntmps29
  go_wp2_with (((with_reducible refine gate_dst (N := 14) rfl ?_); refine Kd.R_make (Kd.int .u8) (w0 := w) w.heap.size 5 rfl (N := 14) rfl 22 _ _ rfl 32 rfl rfl Try.underlying22 (.int .u8 0) 1 B.info5 rfl (by decide) (by omega) (0 : Int) (ok := fun _ => True) (okp := fun _ => False) ?zK (fun _ h => h.elim) trivial (by omega) (by decide) ?zB ?zS ?_; (case zK => exact (by rfl)); (case zB => exact Below.refl _ _); (case zS => exact Nat.le_refl _); intro v1 W1 hR1 hb1 hg1 hat1))
  clear hg1 hat1
  have hR1 : Kd.R (Kd.int .u8) 5 W1 w.heap.size (fun _ => True) v1 zero32 := hR1
  obtain ⟨A1, c1, rfl, hc1, hC1⟩ := Kd.R_reads hR1
  have hq := c_marked W1 5 (0, 0) [1] (by decide)
  have hC2 := Kd.C_alloc hC1 (Obj.cells #[Value.int IntKind.u8 1] 5)
  have hb2 := hb1.alloc hb1.size (Obj.cells #[Value.int IntKind.u8 1] 5)
  have H1 := Lib.hid (And.intro hq (And.intro hC2 hb2))
  clear hq hC2 hb2 hC1 hb1 hR1
  refine (sched_Context.calls _ 1 [1] 2 A1 c1 zero32 A1 c1 zero32 ctx 0 _ H1.out.1 (by decide) H1.out.2.1 hc1 H1.out.2.1 hc1 HF.out.1).mono ?_
  rintro e W2 ⟨v2, rfl, hR2, hb2⟩
  obtain ⟨A2, c2, rfl, hc2, hC2⟩ := Kd.R_reads hR2
  have hw2 := H1.out.2.2.trans (hb2.mono H1.out.2.2.size)
  have hz2 := Kd.C_below H1.out.2.1 hb2
  have H2 := Lib.hid (And.intro hz2 (And.intro hC2 hw2))
  clear hw2 hz2 hC2 hR2 hb2 H1
  go_wp2_with fail
  refine (sched_Joiner.calls A1 c1 zero32 A1 c1 zero32 A2 c2 ctx j 0 _ H2.out.1 hc1 H2.out.1 hc1 H2.out.2.1 hc2 HF.out.2.1).mono ?_
  rintro e W3 ⟨v3, rfl, hR3, hb3⟩
  obtain ⟨A3, c3, rfl, hc3, hC3⟩ := Kd.R_reads hR3
  have hw3 := H2.out.2.2.trans (hb3.mono H2.out.2.2.size)
  have hz3 := Kd.C_below H2.out.1 hb3
  have hx3 := Kd.C_below H2.out.2.1 hb3
  have H3 := Lib.hid (And.intro hz3 (And.intro hx3 (And.intro hC3 hw3)))
  clear hw3 hz3 hx3 hC3 hR3 hb3 H2
  go_wp2_with fail
  refine (sched_Shared.calls none 0 [] zero32 _ (Kd.C_nil _ _) (Nat.le_refl _) hs_shared).mono ?_
  rintro e W4 ⟨v4, rfl, hR4, hb4⟩
  obtain ⟨A4, c4, rfl, hc4, hC4⟩ := Kd.R_reads hR4
  have hw4 := H3.out.2.2.2.trans (hb4.mono H3.out.2.2.2.size)
  have hz4 := Kd.C_below H3.out.1 hb4
  have hx4 := Kd.C_below H3.out.2.1 hb4
  have hj4 := Kd.C_below H3.out.2.2.1 hb4
  have H4 := Lib.hid (And.intro hz4 (And.intro hx4 (And.intro hj4 (And.intro hC4 hw4))))
  clear hw4 hz4 hx4 hj4 hC4 hR4 hb4 H3
  go_wp2_with fail
  refine (sched_Epoch.calls A3 c3 j A4 c4 zero32 A2 c2 ctx r0 r1 r2 r3 r4 0 _ H4.out.2.2.1 hc3 H4.out.2.2.2.1 hc4 H4.out.2.1 hc2 HF.out.2.2.1).mono ?_
  rintro e W5 ⟨w0, w1, w2, w3, w4, rfl, q0, q1, q2, q3, q4, hb5⟩
  obtain ⟨B0, d0, rfl, hd0, hD0⟩ := Kd.R_reads q0
  obtain ⟨B1, d1, rfl, hd1, hD1⟩ := Kd.R_reads q1
  obtain ⟨B2, d2, rfl, hd2, hD2⟩ := Kd.R_reads q2
  obtain ⟨B3, d3, rfl, hd3, hD3⟩ := Kd.R_reads q3
  obtain ⟨B4, d4, rfl, hd4, hD4⟩ := Kd.R_reads q4
  clear q0 q1 q2 q3 q4
  have hw5 := H4.out.2.2.2.2.trans (hb5.mono H4.out.2.2.2.2.size)
  have hz5 := Kd.C_below H4.out.1 hb5
  have hnew := Blk.new W5 60 nil5
  have hbs : ∀ cs, Below W5.heap.size W5 ((W5.alloc (Obj.cells nil5 60)).setRow W5.heap.size cs) := fun cs => ((Below.refl _ W5).alloc (Nat.le_refl _) _).trans (Iter.below_setRow cs (Nat.le_refl _))
  have H5 := Lib.hid (And.intro hz5 (And.intro hw5 (And.intro hnew (And.intro hbs (And.intro hD0 (And.intro hD1 (And.intro hD2 (And.intro hD3 hD4))))))))
  clear hw5 hz5 hnew hbs hD0 hD1 hD2 hD3 hD4 hb5 H4
  go_wp2_with (refine wpList_store_row rfl 60 (.tmp 6) (.tmp 34) rfl W5.heap.size _ rfl rfl 60 nil5 H5.out.2.2.1 infoEp rfl (by simp [Value.oneCell']) ?_)
  obtain ⟨EP, hEP⟩ : ∃ EP : Array Value, EP = #[.slice B0 r0.length d0, .slice B1 r1.length d1, .slice B2 r2.length d2, .slice B3 r3.length d3, .slice B4 r4.length d4] := ⟨_, rfl⟩
  have hbE := H5.out.2.2.2.1 EP
  have hB6 := H5.out.2.2.1.setRow_ EP
  have hw6 := H5.out.2.1.trans (hbE.mono H5.out.2.1.size)
  have hz6 := Kd.C_below H5.out.1 hbE
  have hD0 := Kd.C_below H5.out.2.2.2.2.1 hbE
  have hD1 := Kd.C_below H5.out.2.2.2.2.2.1 hbE
  have hD2 := Kd.C_below H5.out.2.2.2.2.2.2.1 hbE
  have hD3 := Kd.C_below H5.out.2.2.2.2.2.2.2.1 hbE
  have hD4 := Kd.C_below H5.out.2.2.2.2.2.2.2.2 hbE
  subst hEP
  change Calls Try.prog _ _ ((W5.alloc (Obj.cells nil5 60)).setRow W5.heap.size #[.slice B0 r0.length d0, .slice B1 r1.length d1, .slice B2 r2.length d2, .slice B3 r3.length d3, .slice B4 r4.length d4]) _
  generalize (W5.alloc (Obj.cells nil5 60)).setRow W5.heap.size #[.slice B0 r0.length d0, .slice B1 r1.length d1, .slice B2 r2.length d2, .slice B3 r3.length d3, .slice B4 r4.length d4] = W6 at *
  have hgl := hB6.lt
  generalize W5.heap.size = g at *
  clear hbE H5
  refine (sched_Log.calls A1 c1 zero32 none 0 [] none 0 [] lg 0 _ hz6 hc1 (Kd.C_nil _ _) (Nat.le_refl _) (Kd.C_nil _ _) (Nat.le_refl _) HF.out.2.2.2.1).mono ?_
  rintro e W7 ⟨v7, rfl, hR7, hb7⟩
  obtain ⟨A7, c7, rfl, hc7, hC7⟩ := Kd.R_reads hR7
  have hw7 := hw6.trans (hb7.mono hw6.size)
  have hz7 := Kd.C_below hz6 hb7
  have hB7 := hB6.below hb7 hgl
  have hgl7 := hB7.lt
  have e0 := Kd.C_below hD0 hb7
  have e1 := Kd.C_below hD1 hb7
  have e2 := Kd.C_below hD2 hb7
  have e3 := Kd.C_below hD3 hb7
  have e4 := Kd.C_below hD4 hb7
  have H7 := Lib.hid (And.intro hz7 (And.intro hw7 (And.intro hB7 (And.intro hC7 (And.intro e0 (And.intro e1 (And.intro e2 (And.intro e3 e4))))))))
  clear hw7 hz7 hB7 hC7 e0 e1 e2 e3 e4 hD0 hD1 hD2 hD3 hD4 hw6 hz6 hB6 hgl hR7 hb7
  go_wp2_with (refine wpList_load_row rfl 60 (.tmp 6) rfl g rfl 60 _ (0, 0) _ H7.out.2.2.1 Try.underlying60 rfl infoEp ?_)
  refine (sched_Proof.calls B0 d0 r0 B1 d1 r1 B2 d2 r2 B3 d3 r3 B4 d4 r4 A7 c7 lg pf 0 _ (H7.out.2.2.2.2.1) hd0 (H7.out.2.2.2.2.2.1) hd1 (H7.out.2.2.2.2.2.2.1) hd2 (H7.out.2.2.2.2.2.2.2.1) hd3 (H7.out.2.2.2.2.2.2.2.2) hd4 H7.out.2.2.2.1 hc7 HF.out.2.2.2.2.1).mono ?_
  rintro e W8 ⟨v8, rfl, hR8, hb8⟩
  obtain ⟨A8, c8, rfl, hc8, -⟩ := Kd.R_reads hR8
  have hw8 := H7.out.2.1.trans (hb8.mono H7.out.2.1.size)
  have hz8 := Kd.C_below H7.out.1 hb8
  have hB8 := H7.out.2.2.1.below hb8 hgl7
  have hgl8 := hB8.lt
  have e0 := Kd.C_below H7.out.2.2.2.2.1 hb8
  have e1 := Kd.C_below H7.out.2.2.2.2.2.1 hb8
  have e2 := Kd.C_below H7.out.2.2.2.2.2.2.1 hb8
  have e3 := Kd.C_below H7.out.2.2.2.2.2.2.2.1 hb8
  have e4 := Kd.C_below H7.out.2.2.2.2.2.2.2.2 hb8
  have H8 := Lib.hid (And.intro hz8 (And.intro hw8 (And.intro hB8 (And.intro e0 (And.intro e1 (And.intro e2 (And.intro e3 e4)))))))
  clear hw8 hz8 hB8 e0 e1 e2 e3 e4 hR8 hb8 H7
  go_wp2_with (refine wpList_load_row rfl 60 (.tmp 6) rfl g rfl 60 _ (0, 0) _ H8.out.2.2.1 Try.underlying60 rfl infoEp ?_)
  refine (sched_Export.calls B0 d0 r0 B1 d1 r1 B2 d2 r2 B3 d3 r3 B4 d4 r4 ⟨#[97]⟩ none 0 [] 7 x 0 _ (H8.out.2.2.2.1) hd0 (H8.out.2.2.2.2.1) hd1 (H8.out.2.2.2.2.2.1) hd2 (H8.out.2.2.2.2.2.2.1) hd3 (H8.out.2.2.2.2.2.2.2) hd4 (Kd.C_nil _ _) (Nat.le_refl _) HF.out.2.2.2.2.2.1).mono ?_
  rintro e W9 ⟨v9, rfl, hR9, hb9⟩
  obtain ⟨A9, c9, rfl, hc9, -⟩ := Kd.R_reads hR9
  have hw9 := H8.out.2.1.trans (hb9.mono H8.out.2.1.size)
  have hz9 := Kd.C_below H8.out.1 hb9
  have hB9 := H8.out.2.2.1.below hb9 hgl8
  have hgl9 := hB9.lt
  have e0 := Kd.C_below H8.out.2.2.2.1 hb9
  have e1 := Kd.C_below H8.out.2.2.2.2.1 hb9
  have e2 := Kd.C_below H8.out.2.2.2.2.2.1 hb9
  have e3 := Kd.C_below H8.out.2.2.2.2.2.2.1 hb9
  have e4 := Kd.C_below H8.out.2.2.2.2.2.2.2 hb9
  have H9 := Lib.hid (And.intro hz9 (And.intro hw9 (And.intro hB9 (And.intro e0 (And.intro e1 (And.intro e2 (And.intro e3 e4)))))))
  clear hw9 hz9 hB9 e0 e1 e2 e3 e4 hR9 hb9 H8
  have t1 : ((ctx.length : Int) == 74) = true := beq_iff_eq.2 (by have := HL.out.1; omega)
  have t2 : ((r0.length : Int) == 32) = true := beq_iff_eq.2 (by have := HL.out.2.2.1; omega)
  have t3 : ((pf.length : Int) == 32) = true := beq_iff_eq.2 (by have := HL.out.2.2.2.2.2.2.2.2.1; omega)
  have t4 : ((x.length : Int) == 7) = true := beq_iff_eq.2 (by have := HL.out.2.2.2.2.2.2.2.2.2; omega)
  go_wp2_with fail
  refine (sched_Shared.calls none 0 [] zero32 _ (Kd.C_nil _ _) (Nat.le_refl _) hs_shared).mono ?_
  rintro e W10 ⟨v10, rfl, hR10, hb10⟩
  obtain ⟨A10, c10, rfl, hc10, hC10⟩ := Kd.R_reads hR10
  go_wp2_with fail
  refine (pyxref01_Same.calls A10 c10 zero32 A1 c1 zero32 true _ hC10 hc10 (Kd.C_below H9.out.1 hb10) hc1 HF.out.2.2.2.2.2.2.2.2).mono ?_
  rintro e w' ⟨rfl, ⟨n1, rfl⟩⟩
  have hw11 := pw_below_drewN (H9.out.2.1.trans (hb10.mono H9.out.2.1.size)) n1
  have hB10 := H9.out.2.2.1.below hb10 hgl9
  have hB11 : Blk (W10.drewN n1) g 60 #[.slice B0 r0.length d0, .slice B1 r1.length d1, .slice B2 r2.length d2, .slice B3 r3.length d3, .slice B4 r4.length d4] := hB10
  have e0 := Kd.C_drewN (Kd.C_below H9.out.2.2.2.1 hb10) n1
  have e1 := Kd.C_drewN (Kd.C_below H9.out.2.2.2.2.1 hb10) n1
  have e2 := Kd.C_drewN (Kd.C_below H9.out.2.2.2.2.2.1 hb10) n1
  have e3 := Kd.C_drewN (Kd.C_below H9.out.2.2.2.2.2.2.1 hb10) n1
  have e4 := Kd.C_drewN (Kd.C_below H9.out.2.2.2.2.2.2.2 hb10) n1
  generalize W10.drewN n1 = W11 at *
  have hgl11 := hB11.lt
  have hcell : W11.cell? ⟨g, 0, none⟩ = some (.slice B0 r0.length d0) := (hB11.cell 0).trans rfl
  have H11 := Lib.hid (And.intro hw11 (And.intro hB11 (And.intro e0 (And.intro e1 (And.intro e2 (And.intro e3 e4))))))
  clear hw11 hB11 hB10 e0 e1 e2 e3 e4 hC10 hR10 hb10 H9
  go_wp2_with ((refine gate_guard (by rfl) ?_; dsimp only); refine wpList_load_row rfl 60 (.tmp 6) rfl g rfl 60 _ (0, 0) _ H11.out.2.1 Try.underlying60 rfl infoEp ?_)
  refine (sched_Same.calls B0 d0 r0 B1 d1 r1 B2 d2 r2 B3 d3 r3 B4 d4 r4 B0 d0 r0 B1 d1 r1 B2 d2 r2 B3 d3 r3 B4 d4 r4 true _ (H11.out.2.2.1) hd0 (H11.out.2.2.2.1) hd1 (H11.out.2.2.2.2.1) hd2 (H11.out.2.2.2.2.2.1) hd3 (H11.out.2.2.2.2.2.2) hd4 (H11.out.2.2.1) hd0 (H11.out.2.2.2.1) hd1 (H11.out.2.2.2.2.1) hd2 (H11.out.2.2.2.2.2.1) hd3 (H11.out.2.2.2.2.2.2) hd4 HF.out.2.2.2.2.2.2.1).mono ?_
  rintro e W12 ⟨rfl, hb12⟩
  have hw12 := H11.out.1.trans (hb12.mono H11.out.1.size)
  have hB12 := H11.out.2.1.below hb12 hgl11
  have e0 := Kd.C_below H11.out.2.2.1 hb12
  have e1 := Kd.C_below H11.out.2.2.2.1 hb12
  have e2 := Kd.C_below H11.out.2.2.2.2.1 hb12
  have e3 := Kd.C_below H11.out.2.2.2.2.2.1 hb12
  have e4 := Kd.C_below H11.out.2.2.2.2.2.2 hb12
  have H12 := Lib.hid (And.intro hw12 (And.intro hB12 (And.intro e0 (And.intro e1 (And.intro e2 (And.intro e3 e4))))))
  clear hw12 hB12 e0 e1 e2 e3 e4 hb12 H11 hcell
  go_wp2_with ((refine gate_guard (by rfl) ?_; dsimp only); refine wpList_load_row rfl 60 (.tmp 6) rfl g rfl 60 _ (0, 0) _ H12.out.2.1 Try.underlying60 rfl infoEp ?_)
  refine (sched_Same.calls B0 d0 r0 B1 d1 r1 B2 d2 r2 B3 d3 r3 B4 d4 r4 none 0 [] none 0 [] none 0 [] none 0 [] none 0 [] false _ (H12.out.2.2.1) hd0 (H12.out.2.2.2.1) hd1 (H12.out.2.2.2.2.1) hd2 (H12.out.2.2.2.2.2.1) hd3 (H12.out.2.2.2.2.2.2) hd4 (Kd.C_nil _ _) (Nat.le_refl _) (Kd.C_nil _ _) (Nat.le_refl _) (Kd.C_nil _ _) (Nat.le_refl _) (Kd.C_nil _ _) (Nat.le_refl _) (Kd.C_nil _ _) (Nat.le_refl _) HF.out.2.2.2.2.2.2.2.1).mono ?_
  rintro e W13 ⟨rfl, hb13⟩
  have hfin := H12.out.1.trans (hb13.mono H12.out.1.size)
  have HZ := Lib.hid hfin
  clear hfin hb13 H12
  go_wp2
  go_ret
  exact ⟨rfl, HZ.out⟩
end P
end Go.Proofs.Ytpdgeanicciaiaa

/-! RowsIn -/
namespace Go.Proofs.Ytpdgeanicciaiaa
set_option linter.unusedVariables false
open Go.Deep Go.RowKit Go.ChangeShapes Go.WideShapes Go.Proofs.YtpdgeanicciaiaaW.PrintWords
theorem weights_mem_all {H : Type} {P : Program} {e : TypeId} : ∀ {l : List (DataW H)} {d : DataW H}, d ∈ l → ∀ n ∈ d.weights P e, n ∈ DataW.weightsAll P e l
  | d0 :: r, d, h, n, hn => by
    simp only [DataW.weightsAll, List.mem_append]
    rcases List.mem_cons.1 h with rfl | h
    · exact Or.inl hn
    · exact Or.inr (weights_mem_all h n hn)
/-- What is known of a row of rows of bytes that came in. -/
theorem open_rows {H : Type} {enc : TypeId × Value → H} {P : Program} {W : World} {base : Nat} {held : Bool} {t e q : TypeId} {a : Option Addr} {len cap : Nat} {d : DataW H} {ps : List MemPlace} {ts : List TypeId} {ds : List (DataW H)} {j : Nat}
    (hsz : (DataW.weightsEach P ts ds).all (· ≤ reachBytes) = true) (htj : ts[j]? = some t) (hdj : ds[j]? = some d)
    (ht : P.underlying t = some (.slice e)) (he : P.underlying e = some (.slice q)) (hq : P.underlying q = some (.int .u8)) (ce : P.cellsOf e = 1) (cq : P.cellsOf q = 1) (bq : P.bytesOf q = 1)
    (h : DataW.Trod enc P W base (fun _ => true) held t (.slice a len cap) d ps) :
    ∃ l : List (List Int), l.length = len ∧ len ≤ cap ∧ Kd.C (Kd.slice q (Kd.int .u8)) W a len l ∧ ∀ x ∈ l, (∀ n ∈ x, (Lit.int .u8 n).wf = true) ∧ x.length ≤ 140737488351232 := by
  obtain ⟨fuel, hf⟩ := h
  rcases open_int_rows ht he hq ce cq hf with ⟨hcs, _⟩ | ⟨x, l, c, A, L, C, Z, hcs, hb, hl, hm, hd, hx⟩
  · simp [Value.cells] at hcs
    obtain ⟨rfl, rfl, rfl⟩ := hcs
    exact ⟨[], rfl, Nat.le_refl _, ⟨rfl, by simp, fun h => absurd h (by simp)⟩, fun x hx => by simp at hx⟩
  simp [Value.cells] at hcs
  obtain ⟨rfl, rfl, rfl⟩ := hcs
  have hlt : ∀ r, r < len → ((Z r).take (L r)).length = L r := fun r hr => by
    obtain ⟨_, h1, _, h3, _⟩ := hx r (by omega)
    rw [List.length_take]
    omega
  refine ⟨(List.range len).map fun r => (Z r).take (L r), by simp, hl, ⟨by simp, by unfold maxLen at hm; omega, fun h0 => ⟨x, rfl, fun r p hr => ?_⟩⟩, fun y hy => ?_⟩
  · have hrl : r < len := by
      rcases Nat.lt_or_ge r len with h | h
      · exact h
      · rw [List.getElem?_eq_none (by simpa using h)] at hr
        cases hr
    have hp : p = (Z r).take (L r) := by
      simp [hrl] at hr
      exact hr.symm
    subst hp
    obtain ⟨h0', h1, h2, h3, h4, h5, h6⟩ := hx r (by omega)
    have hlr := hlt r hrl
    refine ⟨[.slice (A r) (L r) (C r)], rfl, ⟨A r, C r, by rw [hlr], by omega, ?_⟩, fun i u hu => ?_⟩
    · rw [hlr]
      refine Kd.C_of_reads (enc := Value.int .u8) (d := (0 : Int)) (h1 := fun _ => rfl) ⟨hlr, by unfold maxLen at h2; omega, fun hpos => ?_⟩
      cases hA : A r with
      | none =>
        have := h5 hA
        omega
      | some a' =>
        refine ⟨a', rfl, fun i hi => ?_⟩
        rw [(h6 a' hA).2 i (by omega)]
        rw [List.getD_eq_getElem?_getD, List.getD_eq_getElem?_getD, List.getElem?_take, if_pos hi]
    · rcases i with _ | i
      · have : (Kd.slice q (Kd.int .u8)).sz = 1 := rfl
        rw [this, Nat.mul_one, Nat.add_zero, h0']
        exact hu
      · cases hu
  · obtain ⟨r, hr, rfl⟩ := List.mem_map.1 hy
    have hrl := List.mem_range.1 hr
    obtain ⟨h0', h1, h2, h3, h4, h5, h6⟩ := hx r (by omega)
    refine ⟨fun n hn => h4 n (List.mem_of_mem_take hn), ?_⟩
    rw [hlt r hrl]
    cases hA : A r with
    | none =>
      have := h5 hA
      omega
    | some a' =>
      obtain ⟨hd, _⟩ := Prod.mk.inj hd
      have hmem : intRow .u8 (A r) (L r) (Z r) ∈ (List.range len).map fun r => intRow (H := H) .u8 (A r) (L r) (Z r) := List.mem_map.2 ⟨r, hr, rfl⟩
      have hw : (L r + (C r - L r)) * 1 ∈ (intRow (H := H) .u8 (A r) (L r) (Z r)).weights P e := by
        rw [hA]
        unfold intRow
        simp [DataW.weights, he, bq, lits, h3]
        left
        omega
      have hin : (L r + (C r - L r)) * 1 ∈ d.weights P t := by
        rw [hd]
        simp only [DataW.weights, ht]
        exact List.mem_cons_of_mem _ (List.mem_append.2 (Or.inl (weights_mem_all hmem _ hw)))
      have := List.all_eq_true.1 hsz _ (DataW.weights_mem_each htj hdj _ hin)
      simp [reachBytes] at this
      omega
end Go.Proofs.Ytpdgeanicciaiaa

/-! StructIn -/
namespace Go.Proofs.Ytpdgeanicciaiaa
set_option linter.unusedVariables false
open Go.Deep Go.RowKit Go.ChangeShapes Go.WideShapes Go.Proofs.YtpdgeanicciaiaaW.PrintWords
theorem mapM_each {α β : Type} {f : α → Option β} : ∀ {l : List α} {xs : List β}, l.mapM f = some xs → ∀ (i : Nat) (a : α), l[i]? = some a → ∃ y, xs[i]? = some y ∧ f a = some y
  | [], _, _, i, a, ha => by simp at ha
  | b :: l, xs, h, i, a, ha => by
    rw [List.mapM_cons] at h
    cases hb : f b with
    | none => simp [hb] at h
    | some y =>
      rw [hb] at h
      cases hl : l.mapM f with
      | none => simp [hl] at h
      | some ys =>
        rw [hl] at h
        simp at h
        subst h
        cases i with
        | zero =>
          simp at ha
          subst ha
          exact ⟨y, rfl, hb⟩
        | succ i =>
          obtain ⟨z, hz, hfz⟩ := mapM_each hl i a (by simpa using ha)
          exact ⟨z, by simpa using hz, hfz⟩
theorem open_struct_sized {H : Type} {enc : TypeId × Value → H} {P : Program} {W : World} {base : Nat} {sp : Nat → Bool} {held : Bool} {t : TypeId} {fs : Array Field} {cs : Array Value} {d : DataW H} {ps : List MemPlace} {ts : List TypeId} {ds : List (DataW H)} {j : Nat}
    (hsz : (DataW.weightsEach P ts ds).all (· ≤ reachBytes) = true) (htj : ts[j]? = some t) (hdj : ds[j]? = some d)
    (ht : P.underlying t = some (.struct fs)) (hn : cs.size = P.cellsOf t) (h : DataW.Trod enc P W base sp held t (.agg cs) d ps) :
    ∃ fuel, ∀ f ∈ fs.toList, ∃ y, DataW.trod enc P W base sp held fuel f.type ((cs.toList.drop f.offset).take (P.cellsOf f.type)) = some y ∧ (DataW.weightsEach P [f.type] [y.1]).all (· ≤ reachBytes) = true := by
  obtain ⟨fuel, hf⟩ := h
  cases fuel with
  | zero => simp [DataW.trod] at hf
  | succ m =>
    unfold DataW.trod at hf
    simp only [ht, Value.cells] at hf
    rw [if_pos (by simpa using hn)] at hf
    obtain ⟨xs, hxs, hd⟩ := Option.map_eq_some_iff.1 hf
    refine ⟨m, fun f hm => ?_⟩
    obtain ⟨i, hi, rfl⟩ := List.getElem_of_mem hm
    obtain ⟨y, hy, hfy⟩ := mapM_each hxs i _ (List.getElem?_eq_getElem hi)
    refine ⟨y, hfy, List.all_eq_true.2 fun n hn' => ?_⟩
    have hn1 : n ∈ y.1.weights P (fs.toList[i]).type := by simpa [DataW.weightsEach] using hn'
    have e : d = .agg (xs.map (·.1)) := (Prod.mk.inj hd).1.symm
    have hin : n ∈ d.weights P t := by
      rw [e]
      simp only [DataW.weights, ht]
      refine DataW.weights_mem_each (j := i) (t := (fs.toList[i]).type) (d := y.1) ?_ ?_ _ hn1
      · rw [List.getElem?_map, List.getElem?_eq_getElem hi]
        rfl
      · rw [List.getElem?_map, hy]
        rfl
    exact List.all_eq_true.1 hsz _ (DataW.weights_mem_each htj hdj _ hin)
theorem open_rows_cells {H : Type} {enc : TypeId × Value → H} {P : Program} {W : World} {base : Nat} {held : Bool} {t e q : TypeId} {c : Value} {fuel : Nat} {y : DataW H × List MemPlace}
    (hsz : (DataW.weightsEach P [t] [y.1]).all (· ≤ reachBytes) = true)
    (ht : P.underlying t = some (.slice e)) (he : P.underlying e = some (.slice q)) (hq : P.underlying q = some (.int .u8)) (ce : P.cellsOf e = 1) (cq : P.cellsOf q = 1) (bq : P.bytesOf q = 1)
    (h : DataW.trod enc P W base (fun _ => true) held fuel t [c] = some y) :
    ∃ (a : Option Addr) (len cap : Nat), c = .slice a len cap ∧ ∃ l : List (List Int), l.length = len ∧ len ≤ cap ∧ Kd.C (Kd.slice q (Kd.int .u8)) W a len l ∧ ∀ x ∈ l, (∀ n ∈ x, (Lit.int .u8 n).wf = true) ∧ x.length ≤ 140737488351232 := by
  obtain ⟨a, len, cap, rfl⟩ : ∃ (a : Option Addr) (len cap : Nat), c = .slice a len cap := by
    rcases open_int_rows ht he hq ce cq h with ⟨hcs, _⟩ | ⟨x, l, c', A, L, C, Z, hcs, _⟩
    · simp only [List.cons.injEq, and_true] at hcs
      exact ⟨_, _, _, hcs⟩
    · simp only [List.cons.injEq, and_true] at hcs
      exact ⟨_, _, _, hcs⟩
  exact ⟨a, len, cap, rfl, open_rows hsz (j := 0) (t := t) (d := y.1) (ps := y.2) rfl rfl ht he hq ce cq bq ⟨fuel, h⟩⟩
end Go.Proofs.Ytpdgeanicciaiaa
