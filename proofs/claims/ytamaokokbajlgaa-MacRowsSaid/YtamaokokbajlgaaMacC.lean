/-
  Walk: layer 3's examples (pyxlaw03.shown).
-/
import Derived.Test.YtamaokokbajlgaaMacB
import Derived.Lib.SlBytesConst
namespace Go.Proofs.Ytamaokokbajlgaa
set_option linter.unusedVariables false
set_option linter.unusedSimpArgs false
open Go.RowKit Go.Proofs.Ytamaokokbajlgaa.L Go.Proofs.YtamaokokbajlgaaW.PrintWords Go.Proofs.YtamaokokbajlgaaW.PrintLast Go.Proofs.YtamaokokbajlgaaW.PrintMore

def elevens (i : Nat) : List Int := List.replicate i 11 ++ List.replicate (20 - i) 0
theorem elevens_set (i : Nat) (h : i < 20) : (elevens i).set i 11 = elevens (i + 1) := by
  have : ∀ i, i < 20 → (elevens i).set i 11 = elevens (i + 1) := by decide +kernel
  exact this i h
theorem hi_there : macSum (List.replicate 20 11) [72, 105, 32, 84, 104, 101, 114, 101] = [176, 52, 76, 97, 216, 219, 56, 83, 92, 168, 175, 206, 175, 11, 241, 43, 136, 29, 194, 0, 201, 131, 61, 167, 38, 233, 55, 108, 46, 50, 207, 247] := by decide +kernel
theorem hi_text : P.pyxref01_Text.f [176, 52, 76, 97, 216, 219, 56, 83, 92, 168, 175, 206, 175, 11, 241, 43, 136, 29, 194, 0, 201, 131, 61, 167, 38, 233, 55, 108, 46, 50, 207, 247] = some ⟨#[98, 48, 51, 52, 52, 99, 54, 49, 100, 56, 100, 98, 51, 56, 53, 51, 53, 99, 97, 56, 97, 102, 99, 101, 97, 102, 48, 98, 102, 49, 50, 98, 56, 56, 49, 100, 99, 50, 48, 48, 99, 57, 56, 51, 51, 100, 97, 55, 50, 54, 101, 57, 51, 55, 54, 99, 50, 101, 51, 50, 99, 102, 102, 55]⟩ := by decide +kernel
theorem key12 : (macKey [1, 2]).getD 0 0 = 1 ∧ (macKey [1, 2]).getD 1 0 = 2 ∧ (macKey [1, 2]).getD 63 0 = 0 ∧ byteOk (macKey [1, 2]) = true ∧ (macKey [1, 2] == List.replicate 20 11) = false := by decide +kernel

namespace P
def pyxlaw03_shown.f : Option Bool := some true
set_option maxRecDepth 100000 in
set_option maxHeartbeats 4000000 in
theorem pyxlaw03_shown.calls (r : Bool) (w : World) (h : pyxlaw03_shown.f = some r) :
    Calls Try.prog 30 #[] w fun e w' => e = .returned (.bool r) ∧ Below w.heap.size w w' := by
  injection h with h
  subst h
  have kc := fun (w : World) (C : Array Value) (n c : Nat) => Lib.run_convert_bytes_const (P := Try.prog) w 22 5 C n c Try.underlying22 Try.underlying5
  have kc := Lib.hid kc
  go_enter Try.func30, Try.ntmps30
  go_wp2_with (((with_reducible refine gate_dst (N := 4) rfl ?_); refine Kd.R_make (Kd.int .u8) (w0 := w) w.heap.size 5 rfl (N := 4) rfl 22 _ _ rfl 20 rfl rfl Try.underlying22 (.int .u8 0) 1 info5 rfl (by decide) (by omega) (0 : Int) (ok := fun _ => True) (okp := fun _ => False) ?zK (fun _ h => h.elim) trivial (by omega) (by decide) ?zB ?zS ?_; (case zK => exact (by rfl)); (case zB => exact Below.refl _ _); (case zS => exact Nat.le_refl _); intro v2 W2 hR2 hb2 hg2 hat2))
  obtain ⟨gv, cap, rfl, hgv, -⟩ := Kd.R_form hR2 (by decide)
  have ho : W2.ownsRow w.heap.size 5 1 (.slice (some ⟨gv, 0, none⟩) 20 cap) 20 (nums .u8 (elevens 0)) := Kd.own_of_R hR2
  have e20 : (List.replicate (Int.toNat 20) (0 : Int)).length = 20 := rfl
  rw [e20]
  clear hR2 hg2 hat2 e20
  go_loopw [2] (fun i wr => ∃ k : Nat, k ≤ 20 ∧ i = .int .i64 k ∧ Aside0 (wr.ownsRow w.heap.size 5 1 (.slice (some ⟨gv, 0, none⟩) 20 cap) 20 (nums .u8 (elevens k))) ∧ Below w.heap.size w wr) (fun i _ => 20 - (intOf i).toNat)
  case atStart => exact ⟨0, Nat.zero_le _, rfl, ⟨ho⟩, hb2⟩
  case round =>
    clear ho hb2
    obtain ⟨k, hk, rfl, ho, hbl⟩ := hrel
    by_cases hlt : k < 20
    · obtain ⟨hc, hf⟩ := own_at ho.out (k : Int) (by omega) (by omega)
      rw [Int.toNat_natCast] at hc hf
      have hs := own_store ho.out (k : Int) 11
      rw [Int.toNat_natCast, elevens_set k hlt] at hs
      have hb2 : Below w.heap.size w (wr.setCell ⟨gv, k, none⟩ (.int .u8 11)) := hbl.setCell hgv _
      have HS := Lib.hid (And.intro hs.1 hb2)
      clear hs hb2 hbl ho
      have i0 : (0 : Int) ≤ (k : Int) := by omega
      have i1 : (k : Int) < 20 := by omega
      have d1 : decide ((k : Int) < 20) = true := by rw [decide_eq_true_eq]; omega
      go_wp2
      exact ⟨⟨k + 1, by omega, by go_num, ⟨HS.out.1⟩, HS.out.2⟩, by simp [intOf]; omega⟩
    · obtain rfl : k = 20 := by omega
      have d1 : decide (((20 : Nat) : Int) < 20) = false := by decide
      have hR : Aside0 (Kd.R (Kd.int .u8) 5 wr w.heap.size (fun _ => True) (.slice (some ⟨gv, 0, none⟩) 20 cap) (List.replicate 20 11)) := ⟨Kd.R_of_own (enc := Value.int .u8) (h1 := fun _ => rfl) ho.out (fun _ _ => trivial)⟩
      clear ho
      obtain ⟨-, hcap, hC2⟩ := Kd.R_reads' hR.out
      have hck := mac_Key.calls (some ⟨wr.heap.size, 0, none⟩) 2 [1, 2] (macKey [1, 2]) _ (c_lit wr 5 [1, 2] (by decide)) (Nat.le_refl _) (by decide +kernel)
      have Hck := Lib.hid hck
      have hC3 := Kd.C_alloc hC2 (Obj.cells (nums .u8 [1, 2]).toArray 5)
      have hb3 := hbl.alloc hbl.size (Obj.cells (nums .u8 [1, 2]).toArray 5)
      have H3 := Lib.hid (And.intro hC3 (And.intro hb3 hcap))
      clear hck hC3 hb3 hbl hC2 hcap hR
      go_wp2_with fail
      refine Hck.out.mono ?_
      rintro e W4 ⟨v4, rfl, hR4, hb4⟩
      have hl4 := macKey_length [1, 2]
      obtain ⟨k0, k1, k63, okk, kne⟩ := key12
      generalize macKey [1, 2] = km at *
      obtain ⟨gk, ck, rfl, hgk, hgl, -⟩ := Kd.R_form hR4 (by omega)
      obtain ⟨-, hck4, hC4⟩ := Kd.R_reads' hR4
      rw [hl4] at hC4 hck4 ⊢
      have hC5 := Kd.C_below H3.out.1 hb4
      have hb5 := H3.out.2.1.trans (hb4.mono H3.out.2.1.size)
      have H5 := Lib.hid (And.intro hC4 (And.intro hC5 (And.intro hb5 (And.intro H3.out.2.2 (And.intro hck4 (And.intro k0 (And.intro k1 (And.intro k63 (And.intro okk (And.intro kne hl4))))))))))
      clear hR4 hC4 hb4 hC5 hb5 H3 Hck k0 k1 k63 okk kne hl4 hck4
      have kc := kc.out
      go_wp2_with fail
      have kc := Lib.hid kc
      have hcm := c_marked W4 5 (8, 9) [72, 105, 32, 84, 104, 101, 114, 101] (by decide)
      have hb6 := H5.out.2.2.1.alloc H5.out.2.2.1.size (Obj.cells (nums .u8 [72, 105, 32, 84, 104, 101, 114, 101]).toArray 5 (8, 9))
      have hC6 := Kd.C_alloc H5.out.2.1 (Obj.cells (nums .u8 [72, 105, 32, 84, 104, 101, 114, 101]).toArray 5 (8, 9))
      have hC7 := Kd.C_alloc H5.out.1 (Obj.cells (nums .u8 [72, 105, 32, 84, 104, 101, 114, 101]).toArray 5 (8, 9))
      refine (mac_Sum.calls (some ⟨gv, 0, none⟩) cap (List.replicate 20 11) (some ⟨W4.heap.size, 0, none⟩) 8 [72, 105, 32, 84, 104, 101, 114, 101] _ _ hC6 H5.out.2.2.2.1 hcm (by decide) (by unfold mac_Sum.f; rw [if_pos (by decide +kernel)])).mono ?_
      rintro e W8 ⟨v8, rfl, hR8, hb8⟩
      rw [hi_there] at hR8
      obtain ⟨A8, c8, rfl, hl8, hC8⟩ := Kd.R_reads hR8
      have hx1 := Kd.C_below hC6 hb8
      have hx2 := Kd.C_below hC7 hb8
      have hb9 := hb6.trans (hb8.mono hb6.size)
      have H9 := Lib.hid (And.intro hx1 (And.intro hx2 hb9))
      clear hx1 hx2 hb9 hb8 hR8 hC6 hC7 hcm hb6
      go_wp2_with fail
      refine (pyxref01_Text.calls A8 c8 _ _ _ hC8 hl8 hi_text).mono ?_
      rintro e w' ⟨rfl, ⟨nd, rfl⟩⟩
      have hx2 := Kd.C_drewN H9.out.2.1 nd
      have hx1 := Kd.C_drewN H9.out.1 nd
      have hb10 := pw_below_drewN H9.out.2.2 nd
      clear H9 hC8 hl8
      generalize W8.drewN nd = W9 at *
      obtain ⟨a0, ea0, g0⟩ := Kd.at_int hx2 0 (by omega) (by omega)
      obtain ⟨a1, ea1, g1⟩ := Kd.at_int hx2 1 (by omega) (by omega)
      obtain ⟨a2, ea2, g2⟩ := Kd.at_int hx2 63 (by omega) (by omega)
      cases ea0
      cases ea1
      cases ea2
      rw [show rd km 0 = 1 from H5.out.2.2.2.2.2.1] at g0
      rw [show rd km 1 = 2 from H5.out.2.2.2.2.2.2.1] at g1
      rw [show rd km 63 = 0 from H5.out.2.2.2.2.2.2.2.1] at g2
      have g0 : W9.cell? ⟨gk, 0, none⟩ = some (.int .u8 1) := g0
      have g1 : W9.cell? ⟨gk, 1, none⟩ = some (.int .u8 2) := g1
      have g2 : W9.cell? ⟨gk, 63, none⟩ = some (.int .u8 0) := g2
      obtain ⟨-, -, -, hcap, hck4, -, -, -, okk, kne, hl4⟩ := H5.out
      have hs1 := mac_Same.calls (some ⟨gk, 0, none⟩) ck km (some ⟨gk, 0, none⟩) ck km true W9 (by rw [hl4]; exact hx2) (by omega) (by rw [hl4]; exact hx2) (by omega) (by unfold mac_Same.f; rw [if_pos ⟨okk, okk, by omega⟩, beq_self_eq_true])
      have hs2 := fun n => mac_Same.calls (some ⟨gk, 0, none⟩) ck km (some ⟨gv, 0, none⟩) cap (List.replicate 20 11) false (W9.drewN n) (by rw [hl4]; exact hx2) (by omega) hx1 hcap (by unfold mac_Same.f; rw [if_pos ⟨okk, by decide +kernel, by omega⟩, kne])
      rw [hl4] at hs1 hs2
      have hs2 : ∀ n, Calls Try.prog 33 #[.slice (some ⟨gk, 0, none⟩) 64 ck, .slice (some ⟨gv, 0, none⟩) 20 cap] (W9.drewN n) fun e w' => e = .returned (.bool false) ∧ Drawn0 (W9.drewN n) w' := hs2
      have Hs := Lib.hid (And.intro hs1 (And.intro hs2 hb10))
      clear hs1 hs2 hcap hck4 okk kne hl4 H5 hx1 hx2 hb10
      go_wp2_with fail
      refine Hs.out.1.mono ?_
      rintro e w' ⟨rfl, ⟨n1, rfl⟩⟩
      go_wp2_with fail
      refine (Hs.out.2.1 n1).mono ?_
      rintro e w' ⟨rfl, ⟨n2, rfl⟩⟩
      have hfin := pw_below_drewN Hs.out.2.2 (n1 + n2)
      go_wp2
      go_ret
      exact ⟨rfl, hfin⟩
end P
end Go.Proofs.Ytamaokokbajlgaa
