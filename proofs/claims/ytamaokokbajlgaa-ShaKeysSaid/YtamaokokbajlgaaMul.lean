/-
  Walk: pyxlaw02.mul, the product of two numbers in places of 16 bits.
-/
import Derived.Test.YtamaokokbajlgaaBlk
import Derived.Deep.QuietTactic
import Derived.BigQuiet
namespace Go.Proofs.Ytamaokokbajlgaa
set_option linter.unusedVariables false
set_option linter.unusedSimpArgs false
open Go.RowKit Go.Proofs.Ytamaokokbajlgaa.L Go.Proofs.YtamaokokbajlgaaW.PrintWords Go.Proofs.YtamaokokbajlgaaW.PrintLast Go.Proofs.YtamaokokbajlgaaW.PrintMore

def mulN (a b : List Nat) (i : Nat) (o : List Nat) (c j : Nat) : Nat := o.getD (i + j) 0 + a.getD i 0 * b.getD j 0 + c
def mulIn (a b : List Nat) (i : Nat) (o : List Nat) : Nat → List Nat × Nat
  | 0 => (o, 0)
  | j + 1 => ((mulIn a b i o j).1.set (i + j) (mulN a b i (mulIn a b i o j).1 (mulIn a b i o j).2 j % 65536), mulN a b i (mulIn a b i o j).1 (mulIn a b i o j).2 j / 65536)
def mulTo (a b : List Nat) : Nat → List Nat
  | 0 => List.replicate (a.length + b.length) 0
  | i + 1 => (mulIn a b i (mulTo a b i) b.length).1.set (i + b.length) (mulIn a b i (mulTo a b i) b.length).2
def mulP (a b : List Nat) : List Nat := mulTo a b a.length
def Low (l : List Nat) : Prop := ∀ i, l.getD i 0 < 65536
theorem Low.set_ {l : List Nat} (h : Low l) (i x : Nat) (hx : x < 65536) : Low (l.set i x) := by
  intro j
  rw [List.getD_eq_getElem?_getD, List.getElem?_set]
  split
  · split
    · simpa using hx
    · decide
  · have := h j
    rwa [List.getD_eq_getElem?_getD] at this
theorem mulN_lt {a b : List Nat} (ha : Low a) (hb : Low b) (i : Nat) {o : List Nat} (ho : Low o) {c : Nat} (hc : c < 65536) (j : Nat) : mulN a b i o c j < 4294967296 := by
  have h1 := ha i
  have h2 := hb j
  have h3 := ho (i + j)
  unfold mulN
  have h4 : a.getD i 0 * b.getD j 0 ≤ 65535 * 65535 := Nat.mul_le_mul (by omega) (by omega)
  omega
theorem mulIn_ok {a b : List Nat} (ha : Low a) (hb : Low b) (i : Nat) {o : List Nat} (ho : Low o) : ∀ j, Low (mulIn a b i o j).1 ∧ (mulIn a b i o j).2 < 65536 ∧ (mulIn a b i o j).1.length = o.length
  | 0 => ⟨ho, (by decide : (0 : Nat) < 65536), rfl⟩
  | j + 1 => by
    obtain ⟨h1, h2, h3⟩ := mulIn_ok ha hb i ho j
    have h4 := mulN_lt ha hb i h1 h2 j
    refine ⟨h1.set_ _ _ (Nat.mod_lt _ (by decide)), ?_, ?_⟩
    · show _ / 65536 < 65536
      omega
    · show (List.set _ _ _).length = _
      rw [List.length_set, h3]
theorem mulTo_ok {a b : List Nat} (ha : Low a) (hb : Low b) : ∀ i, Low (mulTo a b i) ∧ (mulTo a b i).length = a.length + b.length
  | 0 => ⟨fun j => by
      unfold mulTo
      rw [List.getD_eq_getElem?_getD, List.getElem?_replicate]
      split <;> decide, by simp [mulTo]⟩
  | i + 1 => by
    obtain ⟨h1, h2⟩ := mulTo_ok ha hb i
    obtain ⟨h3, h4, h5⟩ := mulIn_ok ha hb i h1 b.length
    exact ⟨h3.set_ _ _ h4, by rw [mulTo, List.length_set, h5, h2]⟩
theorem ofB_set (l : List Nat) (i x : Nat) : (ofB l).set i (x : Int) = ofB (l.set i x) := by simp [ofB, List.map_set]
theorem infoI : (Try.prog.info? 3).map (fun i => (i.zero, i.size, i.bytes)) = some (some (.int .i64 0), 1, 8) := by kernel_rfl
theorem low_of {l : List Int} (h : l.all (fun x => decide (0 ≤ x) && decide (x < 65536)) = true) : ∃ m : List Nat, l = ofB m ∧ Low m ∧ m = toB l := by
  rw [List.all_eq_true] at h
  refine ⟨toB l, ?_, ?_, rfl⟩
  · unfold ofB toB
    rw [List.map_map]
    conv => lhs; rw [← List.map_id l]
    refine List.map_congr_left fun x hx => ?_
    have := h x hx
    simp only [Bool.and_eq_true, decide_eq_true_eq] at this
    simp only [Function.comp, id]
    omega
  · intro i
    unfold toB
    rw [List.getD_eq_getElem?_getD, List.getElem?_map]
    cases hx : l[i]? with
    | none => decide
    | some x =>
      have := h x (List.mem_of_getElem? hx)
      simp only [Bool.and_eq_true, decide_eq_true_eq] at this
      simp
      omega

namespace P
def pyxlaw02_mul.f (a b : List Int) : Option (List Int) :=
  if a.all (fun x => decide (0 ≤ x) && decide (x < 65536)) = true ∧ b.all (fun x => decide (0 ≤ x) && decide (x < 65536)) = true ∧ (1 ≤ a.length ∧ a.length ≤ 100) ∧ (1 ≤ b.length ∧ b.length ≤ 100) then some (ofB (mulP (toB a) (toB b))) else none
set_option maxRecDepth 100000 in
set_option maxHeartbeats 4000000 in
theorem pyxlaw02_mul.calls (A0 : Option Addr) (c0 : Nat) (l0 : List Int) (A1 : Option Addr) (c1 : Nat) (l1 : List Int) (r : List Int) (w : World) (hr0 : Kd.C (Kd.int .i64) w A0 l0.length l0) (hc0 : l0.length ≤ c0) (hr1 : Kd.C (Kd.int .i64) w A1 l1.length l1) (hc1 : l1.length ≤ c1) (h : pyxlaw02_mul.f l0 l1 = some r) :
    Calls Try.prog 44 #[.slice A0 l0.length c0, .slice A1 l1.length c1] w fun e w' => ∃ v0_ : Value, e = .returned (v0_) ∧ Kd.R (Kd.int .i64) 3 w' w.heap.size (fun _ => True) v0_ r ∧ Below w.heap.size w w' := by
  unfold pyxlaw02_mul.f at h
  split at h
  case isFalse => cases h
  case isTrue hok =>
  injection h with h
  obtain ⟨h0, h1, n0, n1⟩ := hok
  obtain ⟨a, rfl, ha, ea⟩ := low_of h0
  obtain ⟨b, rfl, hb, eb⟩ := low_of h1
  rw [← ea, ← eb] at h
  rw [ofB_length] at hr0 hc0 hr1 hc1 n0 n1 ⊢
  rw [ofB_length]
  have Hh := Lib.hid h
  clear h h0 h1 ea eb
  obtain ⟨n, hn⟩ : ∃ n, a.length = n := ⟨_, rfl⟩
  obtain ⟨m, hm⟩ : ∃ m, b.length = m := ⟨_, rfl⟩
  rw [hn] at hr0 hc0 n0 ⊢
  rw [hm] at hr1 hc1 n1 ⊢
  have HN := Lib.hid (And.intro hn hm)
  clear hn hm
  obtain ⟨n0a, n0⟩ := n0
  obtain ⟨n1a, n1⟩ := n1
  go_enter Try.func44, Try.ntmps44
  go_wp2_with (((with_reducible refine gate_dst (N := 15) rfl ?_); refine Kd.R_make (Kd.int .i64) (w0 := w) w.heap.size 3 rfl (N := 15) rfl 63 _ _ rfl ((n : Int) + (m : Int)) rfl rfl Try.underlying63 (.int .i64 0) 8 infoI rfl (by decide) (by omega) (0 : Int) (ok := fun _ => True) (okp := fun _ => False) ?zK (fun _ h => h.elim) trivial ?zn ?zl ?zB ?zS ?_; (case zK => exact (by rfl)); (case zn => omega); (case zl => omega); (case zB => exact Below.refl _ _); (case zS => exact Nat.le_refl _); intro v2 W2 hR2 hb2 hg2 hat2))
  have etn : ((n : Int) + (m : Int)).toNat = n + m := by omega
  rw [etn] at hR2
  obtain ⟨gv, cap, rfl, hgv, -, -⟩ := Kd.R_form hR2 (by rw [List.length_replicate]; omega)
  rw [List.length_replicate] at hR2 ⊢
  have ho : W2.ownsRow w.heap.size 3 1 (.slice (some ⟨gv, 0, none⟩) (n + m) cap) (n + m) (nums .i64 (ofB (mulTo a b 0))) := by
    have h := Kd.own_of_R hR2
    rw [List.length_replicate] at h
    have e : ofB (mulTo a b 0) = List.replicate (n + m) (0 : Int) := by
      unfold mulTo ofB
      rw [HN.out.1, HN.out.2, List.map_replicate]
      rfl
    rw [e]
    exact h
  clear hR2 hg2 hat2 etn
  obtain ⟨N, hNN⟩ : ∃ N, n + m = N := ⟨_, rfl⟩
  rw [hNN] at ho ⊢
  have HNN := Lib.hid hNN
  clear hNN
  go_loopw [6] (fun i wr => ∃ k : Nat, k ≤ n ∧ i = .int .i64 k ∧ Aside0 (wr.ownsRow w.heap.size 3 1 (.slice (some ⟨gv, 0, none⟩) N cap) N (nums .i64 (ofB (mulTo a b k)))) ∧ Below w.heap.size w wr) (fun i _ => n - (intOf i).toNat)
  case atStart => exact ⟨0, Nat.zero_le _, rfl, ⟨ho⟩, hb2⟩
  case round =>
    clear ho hb2
    obtain ⟨k, hk, rfl, ho, hbl⟩ := hrel
    obtain ⟨hlo, hll⟩ := mulTo_ok ha hb k
    rw [HN.out.1, HN.out.2, HNN.out] at hll
    have hNm : N = n + m := HNN.out.symm
    by_cases hlt : k < n
    · have Hnext := Lib.hid (show mulTo a b (k + 1) = (mulIn a b k (mulTo a b k) b.length).1.set (k + b.length) (mulIn a b k (mulTo a b k) b.length).2 from rfl)
      rw [HN.out.2] at Hnext
      generalize mulTo a b k = o at *
      have d1 : decide ((k : Int) < (n : Int)) = true := by rw [decide_eq_true_eq]; omega
      have ho0 : Aside0 (wr.ownsRow w.heap.size 3 1 (.slice (some ⟨gv, 0, none⟩) N cap) N (nums .i64 (ofB (mulIn a b k o 0).1))) := ho
      have HnM := Lib.hid hNm
      clear hNm ho
      go_wp2_with fail
      obtain ⟨wo, rfl⟩ : ∃ wo : World, wo = wr := ⟨_, rfl⟩
      go_loopw [7, 8] (fun c i wr => ∃ j : Nat, j ≤ m ∧ i = .int .i64 j ∧ c = .int .i64 ((mulIn a b k o j).2 : Nat) ∧ Aside0 (wr.ownsRow w.heap.size 3 1 (.slice (some ⟨gv, 0, none⟩) N cap) N (nums .i64 (ofB (mulIn a b k o j).1))) ∧ Below w.heap.size w wr) (fun _ i _ => m - (intOf i).toNat)
      case atStart => exact ⟨0, Nat.zero_le _, rfl, rfl, ho0, hbl⟩
      case round =>
        clear ho0 hbl
        obtain ⟨j, hj, rfl, rfl, ho, hbl⟩ := hrel
        obtain ⟨hl1, hc1', hn1⟩ := mulIn_ok ha hb k hlo j
        rw [hll] at hn1
        have hNm := HnM.out
        by_cases hjm : j < m
        · have Hs := Lib.hid (show mulIn a b k o (j + 1) = ((mulIn a b k o j).1.set (k + j) (mulN a b k (mulIn a b k o j).1 (mulIn a b k o j).2 j % 65536), mulN a b k (mulIn a b k o j).1 (mulIn a b k o j).2 j / 65536) from rfl)
          have hml := mulN_lt ha hb k hl1 hc1' j
          have hdef : mulN a b k (mulIn a b k o j).1 (mulIn a b k o j).2 j = (mulIn a b k o j).1.getD (k + j) 0 + a.getD k 0 * b.getD j 0 + (mulIn a b k o j).2 := rfl
          generalize (mulIn a b k o j).1 = o1 at *
          generalize (mulIn a b k o j).2 = cc at *
          generalize mulN a b k o1 cc j = t at *
          obtain ⟨hcell, hfr⟩ := own_at ho.out ((k + j : Nat) : Int) (by omega) (by omega)
          rw [rd_ofB, Int.toNat_natCast] at hcell
          rw [Int.toNat_natCast] at hfr
          obtain ⟨ada, ea, hca⟩ := Kd.at_int (Kd.C_below hr0 hbl) (k : Int) (by omega) (by omega)
          obtain ⟨adb, eb, hcb⟩ := Kd.at_int (Kd.C_below hr1 hbl) (j : Int) (by omega) (by omega)
          rw [rd_ofB, Int.toNat_natCast] at hca hcb
          have hx := ha k
          have hy := hb j
          have hz := hl1 (k + j)
          generalize o1.getD (k + j) 0 = z at *
          generalize a.getD k 0 = x at *
          generalize b.getD j 0 = y at *
          have hs := own_store ho.out ((k + j : Nat) : Int) ((t % 65536 : Nat) : Int)
          rw [Int.toNat_natCast, ofB_set] at hs
          obtain ⟨xy, hxy⟩ : ∃ p, x * y = p := ⟨_, rfl⟩
          rw [hxy] at hdef
          have hxyb : xy ≤ 65535 * 65535 := by rw [← hxy]; exact Nat.mul_le_mul (by omega) (by omega)
          obtain ⟨kj, hkj⟩ : ∃ p, k + j = p := ⟨_, rfl⟩
          rw [hkj] at hcell hfr hs Hs
          have b7 : ((t / 65536 : Nat) : Int) < 65536 := by omega
          have b1 : (0 : Int) ≤ (kj : Int) := by omega
          have b2 : (kj : Int) < (N : Int) := by omega
          have b3 : (0 : Int) ≤ (k : Int) := by omega
          have b4 : (k : Int) < (n : Int) := by omega
          have b5 : (0 : Int) ≤ (j : Int) := by omega
          have b6 : (j : Int) < (m : Int) := by omega
          have d2 : decide ((j : Int) < (m : Int)) = true := by rw [decide_eq_true_eq]; omega
          obtain ⟨s, hsd⟩ : ∃ p, z + xy = p := ⟨_, rfl⟩
          have EK : Hid ((k : Int) + (j : Int) = (kj : Int)) := Lib.hid (by omega)
          have E : Hid (IntKind.i64.wrap ((k : Int) + (j : Int)) = (kj : Int)) := Lib.hid (by rw [IntKind.wrap_i64]; omega)
          have E2 : Hid (IntKind.i64.wrap ((x : Int) * (y : Int)) = (xy : Int)) := Lib.hid (by rw [show (x : Int) * (y : Int) = (xy : Int) from by rw [← hxy]; simp, IntKind.wrap_i64]; omega)
          have E3 : Hid (IntKind.i64.wrap ((z : Int) + (xy : Int)) = (s : Int)) := Lib.hid (by rw [IntKind.wrap_i64]; omega)
          have E4 : Hid (IntKind.i64.wrap ((s : Int) + (cc : Int)) = (t : Int)) := Lib.hid (by rw [IntKind.wrap_i64]; omega)
          obtain ⟨tm, htm⟩ : ∃ p, t % 65536 = p := ⟨_, rfl⟩
          obtain ⟨td, htd⟩ : ∃ p, t / 65536 = p := ⟨_, rfl⟩
          rw [htm] at hs Hs
          rw [htd] at Hs b7
          have hb3 : Below w.heap.size w (wr.setCell ⟨gv, kj, none⟩ (.int .i64 (tm : Int))) := hbl.setCell hgv _
          have HF := Lib.hid (And.intro htm (And.intro htd (And.intro hs.1 hb3)))
          have hblH := Lib.hid hbl
          cases ea
          cases eb
          clear hs hb3 ho hbl hml hdef hxy hxyb hsd hx hy hz hl1 hc1' hn1 hlo hll hkj htm htd
          have e1 := E.out
          have e2 := E2.out
          have e3 := E3.out
          have e4 := E4.out
          clear E E2 E3 E4
          go_wp2_with fail
          go_quiet (fail)
          have ekj : (k : Int) + (j : Int) = (kj : Int) := EK.out
          have etm : (t : Int) % 65536 = (tm : Int) := by have := HF.out.1; omega
          have etd : (t : Int) / 65536 = (td : Int) := by have := HF.out.2.1; omega
          have hbd := pw_below_drewN hblH.out nq
          clear e1 e2 e3 e4 hca hcb
          go_wp2
          exact ⟨⟨j + 1, by omega, by go_num, by rw [Hs.out], ⟨by rw [Hs.out]; exact HF.out.2.2.1⟩, (hbd.setCell hgv _)⟩, by simp [intOf]; omega⟩
        · obtain rfl : j = m := by omega
          have d2 : decide ((j : Int) < (j : Int)) = false := by simp
          have d2' : decide (j < j) = false := by simp
          have hs := own_store ho.out ((k + j : Nat) : Int) (((mulIn a b k o j).2 : Nat) : Int)
          obtain ⟨hcell, hfr⟩ := own_at ho.out ((k + j : Nat) : Int) (by omega) (by omega)
          rw [Int.toNat_natCast] at hcell hfr
          rw [Int.toNat_natCast, ofB_set, ← Hnext.out] at hs
          generalize (mulIn a b k o j).2 = cc at *
          obtain ⟨kj, hkj⟩ : ∃ p, k + j = p := ⟨_, rfl⟩
          rw [hkj] at hcell hfr hs
          have hb3 : Below w.heap.size w (wr.setCell ⟨gv, kj, none⟩ (.int .i64 (cc : Int))) := hbl.setCell hgv _
          have b1 : (0 : Int) ≤ (kj : Int) := by omega
          have b2 : (kj : Int) < (N : Int) := by omega
          have EK : Hid ((k : Int) + (j : Int) = (kj : Int)) := Lib.hid (by omega)
          have HF := Lib.hid (And.intro hs.1 hb3)
          clear hs hb3 ho hbl hl1 hc1' hn1 hlo hll hkj hNm
          have ekj : (k : Int) + (j : Int) = (kj : Int) := EK.out
          go_wp2
          exact ⟨⟨k + 1, by omega, by go_num, ⟨HF.out.1⟩, HF.out.2⟩, by simp [intOf]; omega⟩
    · obtain rfl : k = n := by omega
      have d1 : decide ((k : Int) < (k : Int)) = false := by simp
      have d1' : decide (k < k) = false := by simp
      have hfin : Aside0 (Kd.R (Kd.int .i64) 3 wr w.heap.size (fun _ => True) (.slice (some ⟨gv, 0, none⟩) N cap) r) := ⟨by
        rw [← Hh.out]
        unfold mulP
        rw [HN.out.1]
        exact Kd.R_of_own (enc := Value.int .i64) (h1 := fun _ => rfl) (by rw [ofB_length, hll]; exact ho.out) (fun _ _ => trivial)⟩
      clear ho hNm hlo hll
      go_wp2
      go_ret
      exact ⟨_, rfl, hfin.out, hbl⟩
end P
end Go.Proofs.Ytamaokokbajlgaa
