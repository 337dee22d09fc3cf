/-
  Walk: pyxlaw02.ShaKeys.
-/
import Derived.Test.YtamaokokbajlgaaBlk
import Derived.Test.YtamaokokbajlgaaK1
namespace Go.Proofs.Ytamaokokbajlgaa
set_option linter.unusedVariables false
set_option linter.unusedSimpArgs false
open Go.RowKit Go.Proofs.Ytamaokokbajlgaa.L Go.Proofs.YtamaokokbajlgaaW.PrintWords Go.Proofs.YtamaokokbajlgaaW.PrintLast Go.Proofs.YtamaokokbajlgaaW.PrintMore

def pr (i : Nat) : Nat := Sha.pTab.getD i 0
def qr (j : Nat) : Nat := if j = 0 then 1 else pr (j - 1)
def cr (i : Nat) : Nat := ((List.range 8).filter fun v => decide ((v + 1) * (v + 1) * (v + 1) ≤ pr i)).length
def sr (i : Nat) : Nat := ((List.range 8).filter fun v => decide ((v + 1) * (v + 1) ≤ pr i)).length
theorem prime_tab : ∀ p, p < 314 → K.pyxlaw02_prime.f 40 ((p : Nat) : Int) = some (decide (2 ≤ p) && Sha.isP p) := by decide +kernel
theorem prime_gap : ∀ j, j < 64 → qr j < qr (j + 1) ∧ qr (j + 1) < 314 ∧ (decide (2 ≤ qr (j + 1)) && Sha.isP (qr (j + 1))) = true ∧ ∀ p, p < 314 → qr j < p → p < qr (j + 1) → (decide (2 ≤ p) && Sha.isP p) = false := by decide +kernel
theorem cr_tab : ∀ i, i < 64 → cr i ≤ 7 ∧ ∀ v, v < 8 → (v < cr i ↔ (v + 1) * (v + 1) * (v + 1) ≤ pr i) := by decide +kernel
theorem sr_tab : ∀ i, i < 8 → sr i ≤ 7 ∧ ∀ v, v < 8 → (v < sr i ↔ (v + 1) * (v + 1) ≤ pr i) := by decide +kernel
theorem cube_tab : ∀ i, i < 64 → K.pyxlaw02_cube.f 60 ((cr i * 4294967296 + Sha.kTab.getD i 0 : Nat) : Int) ((pr i : Nat) : Int) = some true ∧ K.pyxlaw02_cube.f 60 ((cr i * 4294967296 + Sha.kTab.getD i 0 + 1 : Nat) : Int) ((pr i : Nat) : Int) = some false := by decide +kernel
theorem square_tab : ∀ i, i < 8 → K.pyxlaw02_square.f ((sr i : Nat) : Int) ((Sha.hTab.getD i 0 : Nat) : Int) ((pr i : Nat) : Int) = some true ∧ K.pyxlaw02_square.f ((sr i : Nat) : Int) ((Sha.hTab.getD i 0 + 1 : Nat) : Int) ((pr i : Nat) : Int) = some false := by decide +kernel
end Go.Proofs.Ytamaokokbajlgaa
