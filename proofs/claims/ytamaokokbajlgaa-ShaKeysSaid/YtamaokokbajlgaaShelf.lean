/-
  math/bits.Mul64 and math/bits.Add64 in this program's numbers.
-/
import Derived.Shelf.Bits.Mul64
import Derived.Laws.Externs
import Derived.Test.YtamaokokbajlgaaShaSpec
import Derived.Test.YtamaokokbajlgaaProg
namespace Go.Proofs.Ytamaokokbajlgaa
open Go.Shelf Go.RowKit Go.Lib
def lays264_ren : Go.Shelf.Ren := ⟨fun | 264 => 60 | n => n, fun | 53 => 68 | 46 => 59 | n => n, fun | n => n⟩
theorem lays264 : Go.Proofs.Lays.n264 Try.prog lays264_ren := {
  mixed := by kernel_rfl
  f264 := Try.func60.trans (congrArg some (by kernel_rfl))
  t46 := Try.underlying59
  a46 := Try.isAgg59
  z46 := Try.sizeOf59
  v46 := Try.zeroValue59
  t53 := Try.underlying68
  a53 := Try.isAgg68
  z53 := Try.sizeOf68
  v53 := Try.zeroValue68 }
theorem mul64_calls (x y : Nat) (hx : x < 18446744073709551616) (hy : y < 18446744073709551616) (w : World) :
    Calls Try.prog 60 #[.int .u64 x, .int .u64 y] w fun e w' => e = .returned (.tuple #[.int .u64 (Sha.mulHi x y), .int .u64 (Sha.mulLo x y)]) ∧ w = w' :=
  (Any.bits_Mul64 lays264 x y hx hy w).mono fun _ _ h => ⟨h.1, h.2.symm⟩
theorem add64_run (x y : Nat) (w : World) :
    (callFunc 61 #[.int .u64 x, .int .u64 y, .int .u64 0]).run Try.prog w =
      .ok (.value (.tuple #[.int .u64 (Sha.addLo x y), .int .u64 (Sha.addHi x y)])) w := by
  have h := run_add64 (P := Try.prog) (w := w) x y 0 (by omega) (by omega) (by omega) (by omega)
  rw [run_callFunc_extern Try.func61 (by kernel_rfl) (by kernel_rfl) (by kernel_rfl) (e := add64Entry) (by kernel_rfl)]
  rw [h]
  simp only [Result.andThen]
  unfold Sha.addLo Sha.addHi
  congr 5 <;> omega
end Go.Proofs.Ytamaokokbajlgaa
