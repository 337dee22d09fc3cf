/-
  No cell of these rows narrows 'for every input' (looked for: loops, veiled, ifaces, maps, wideKeys, modest, calm, conditions, laid).
  DERIVED. THE GIVEN ROWS OF THIS SEAT. 10 by the template 'for every input the law returns true; each argument reads behind the call as it read before'; 0 by the template 'total and deterministic' (their statements: YtifpdpfjhjoieaaTotals.lean).
  GIVEN WITH THE SEED: the statements are not yours to turn. If you find one false, say at which input.
  Laid BY PROGRAM, IN A SANDBOX (cutbox-rows.mjs): the forced cells as the released guide's own fill.sh prints them over the translation f4d71e327aa6fe59… (all of the seat's roots in one cut). By AI agents, Wed Nov 11 2026. No macro, syntax, notation, axiom, sorry.
-/
import Derived.Test.YtifpdpfjhjoieaaChecked
import GoSem.Claim
import GoSem.ClaimJoined
import GoSem.ClaimMapViews
import Derived.JoinedTies
import Derived.KernelRfl
namespace Go.Proofs.Ytifpdpfjhjoieaa
/- THE CELL 'sum', in the pinned program and in every row, IS THE sha256 OF THE DUMP (.gsa) THAT YtifpdpfjhjoieaaProg.lean LOADS. Nothing in Lean hashes anything: it is a label: what it is worth is what the hold of that sum in a sandbox is worth. -/
noncomputable def Try.pinned : Pinned := { name := "ytifpdpfjhjoieaa", sum := "f4d71e327aa6fe594821f3dc2f4dd1ddd3758969aad150f5aa48c9dacabade5b", checked := Try.checked }
namespace Rows
def none {H : Type} : Left H := { results := [], args := [] }

/-- 'pyxlaw06.SealTells': WHATEVER THE INPUT: true; the input reads as it did. -/
def sealTellsSpec : ChangeSpec := { name := "sealTells", fn := fun _ => fun
  | [d] => { results := [.lit (.bool true)], args := [d] }
  | _ => none }
def sealTellsRow : OpenClaim := { program := "ytifpdpfjhjoieaa", sum := "f4d71e327aa6fe594821f3dc2f4dd1ddd3758969aad150f5aa48c9dacabade5b", func := "pyx/pyxlaw06.SealTells", spec := "sealTells", inPlace := ["math/bits.Add64"], unfollowed := true, recurses := true, apart := false }
def SealTellsSaid : Prop := sealTellsRow.holds Try.pinned (OpenSpec.ofChange sealTellsSpec)

/-- ITS FALSE NEIGHBOUR: 'it returns false'. Refute it at one input. -/
def sealTellsWrong : ChangeSpec := { name := "sealTells", fn := fun _ => fun
  | [d] => { results := [.lit (.bool false)], args := [d] }
  | _ => none }
def SealTellsWrongFalsely : Prop := sealTellsRow.holds Try.pinned (OpenSpec.ofChange sealTellsWrong)

/-- 'pyxlaw06.SealBack': WHATEVER THE INPUT: true; the input reads as it did. -/
def sealBackSpec : ChangeSpec := { name := "sealBack", fn := fun _ => fun
  | [d] => { results := [.lit (.bool true)], args := [d] }
  | _ => none }
def sealBackRow : OpenClaim := { program := "ytifpdpfjhjoieaa", sum := "f4d71e327aa6fe594821f3dc2f4dd1ddd3758969aad150f5aa48c9dacabade5b", func := "pyx/pyxlaw06.SealBack", spec := "sealBack", inPlace := ["math/bits.Add64"], unfollowed := true, recurses := true, apart := false }
def SealBackSaid : Prop := sealBackRow.holds Try.pinned (OpenSpec.ofChange sealBackSpec)

/-- ITS FALSE NEIGHBOUR: 'it returns false'. Refute it at one input. -/
def sealBackWrong : ChangeSpec := { name := "sealBack", fn := fun _ => fun
  | [d] => { results := [.lit (.bool false)], args := [d] }
  | _ => none }
def SealBackWrongFalsely : Prop := sealBackRow.holds Try.pinned (OpenSpec.ofChange sealBackWrong)

/-- 'pyxlaw06.SealSpoilt': WHATEVER THE INPUT: true; the input reads as it did. -/
def sealSpoiltSpec : ChangeSpec := { name := "sealSpoilt", fn := fun _ => fun
  | [d] => { results := [.lit (.bool true)], args := [d] }
  | _ => none }
def sealSpoiltRow : OpenClaim := { program := "ytifpdpfjhjoieaa", sum := "f4d71e327aa6fe594821f3dc2f4dd1ddd3758969aad150f5aa48c9dacabade5b", func := "pyx/pyxlaw06.SealSpoilt", spec := "sealSpoilt", inPlace := ["math/bits.Add64"], unfollowed := true, recurses := true, apart := false }
def SealSpoiltSaid : Prop := sealSpoiltRow.holds Try.pinned (OpenSpec.ofChange sealSpoiltSpec)

/-- ITS FALSE NEIGHBOUR: 'it returns false'. Refute it at one input. -/
def sealSpoiltWrong : ChangeSpec := { name := "sealSpoilt", fn := fun _ => fun
  | [d] => { results := [.lit (.bool false)], args := [d] }
  | _ => none }
def SealSpoiltWrongFalsely : Prop := sealSpoiltRow.holds Try.pinned (OpenSpec.ofChange sealSpoiltWrong)

/-- 'pyxlaw06.SealNonces': WHATEVER THE INPUT: true; the input reads as it did. -/
def sealNoncesSpec : ChangeSpec := { name := "sealNonces", fn := fun _ => fun
  | [d1, d2, d3] => { results := [.lit (.bool true)], args := [d1, d2, d3] }
  | _ => none }
def sealNoncesRow : OpenClaim := { program := "ytifpdpfjhjoieaa", sum := "f4d71e327aa6fe594821f3dc2f4dd1ddd3758969aad150f5aa48c9dacabade5b", func := "pyx/pyxlaw06.SealNonces", spec := "sealNonces", inPlace := ["math/bits.Add64"], unfollowed := true, recurses := true, apart := false }
def SealNoncesSaid : Prop := sealNoncesRow.holds Try.pinned (OpenSpec.ofChange sealNoncesSpec)

/-- ITS FALSE NEIGHBOUR: 'it returns false'. Refute it at one input. -/
def sealNoncesWrong : ChangeSpec := { name := "sealNonces", fn := fun _ => fun
  | [d1, d2, d3] => { results := [.lit (.bool false)], args := [d1, d2, d3] }
  | _ => none }
def SealNoncesWrongFalsely : Prop := sealNoncesRow.holds Try.pinned (OpenSpec.ofChange sealNoncesWrong)

/-- 'pyxlaw06.SealLocked': WHATEVER THE INPUT: true; the input reads as it did. -/
def sealLockedSpec : ChangeSpec := { name := "sealLocked", fn := fun _ => fun
  | [d] => { results := [.lit (.bool true)], args := [d] }
  | _ => none }
def sealLockedRow : OpenClaim := { program := "ytifpdpfjhjoieaa", sum := "f4d71e327aa6fe594821f3dc2f4dd1ddd3758969aad150f5aa48c9dacabade5b", func := "pyx/pyxlaw06.SealLocked", spec := "sealLocked", inPlace := ["math/bits.Add64"], unfollowed := true, recurses := true, apart := false }
def SealLockedSaid : Prop := sealLockedRow.holds Try.pinned (OpenSpec.ofChange sealLockedSpec)

/-- ITS FALSE NEIGHBOUR: 'it returns false'. Refute it at one input. -/
def sealLockedWrong : ChangeSpec := { name := "sealLocked", fn := fun _ => fun
  | [d] => { results := [.lit (.bool false)], args := [d] }
  | _ => none }
def SealLockedWrongFalsely : Prop := sealLockedRow.holds Try.pinned (OpenSpec.ofChange sealLockedWrong)

/-- 'pyxlaw07.SigTells': WHATEVER THE INPUT: true; the input reads as it did. -/
def sigTellsSpec : ChangeSpec := { name := "sigTells", fn := fun _ => fun
  | [d] => { results := [.lit (.bool true)], args := [d] }
  | _ => none }
def sigTellsRow : OpenClaim := { program := "ytifpdpfjhjoieaa", sum := "f4d71e327aa6fe594821f3dc2f4dd1ddd3758969aad150f5aa48c9dacabade5b", func := "pyx/pyxlaw07.SigTells", spec := "sigTells", inPlace := ["math/bits.Add64"], unfollowed := true, recurses := true, apart := false }
def SigTellsSaid : Prop := sigTellsRow.holds Try.pinned (OpenSpec.ofChange sigTellsSpec)

/-- ITS FALSE NEIGHBOUR: 'it returns false'. Refute it at one input. -/
def sigTellsWrong : ChangeSpec := { name := "sigTells", fn := fun _ => fun
  | [d] => { results := [.lit (.bool false)], args := [d] }
  | _ => none }
def SigTellsWrongFalsely : Prop := sigTellsRow.holds Try.pinned (OpenSpec.ofChange sigTellsWrong)

/-- 'pyxlaw07.SigWraps': WHATEVER THE INPUT: true; the input reads as it did. -/
def sigWrapsSpec : ChangeSpec := { name := "sigWraps", fn := fun _ => fun
  | [d] => { results := [.lit (.bool true)], args := [d] }
  | _ => none }
def sigWrapsRow : OpenClaim := { program := "ytifpdpfjhjoieaa", sum := "f4d71e327aa6fe594821f3dc2f4dd1ddd3758969aad150f5aa48c9dacabade5b", func := "pyx/pyxlaw07.SigWraps", spec := "sigWraps", inPlace := ["math/bits.Add64"], unfollowed := true, recurses := true, apart := false }
def SigWrapsSaid : Prop := sigWrapsRow.holds Try.pinned (OpenSpec.ofChange sigWrapsSpec)

/-- ITS FALSE NEIGHBOUR: 'it returns false'. Refute it at one input. -/
def sigWrapsWrong : ChangeSpec := { name := "sigWraps", fn := fun _ => fun
  | [d] => { results := [.lit (.bool false)], args := [d] }
  | _ => none }
def SigWrapsWrongFalsely : Prop := sigWrapsRow.holds Try.pinned (OpenSpec.ofChange sigWrapsWrong)

/-- 'pyxlaw07.SigBack': WHATEVER THE INPUT: true; the input reads as it did. -/
def sigBackSpec : ChangeSpec := { name := "sigBack", fn := fun _ => fun
  | [d] => { results := [.lit (.bool true)], args := [d] }
  | _ => none }
def sigBackRow : OpenClaim := { program := "ytifpdpfjhjoieaa", sum := "f4d71e327aa6fe594821f3dc2f4dd1ddd3758969aad150f5aa48c9dacabade5b", func := "pyx/pyxlaw07.SigBack", spec := "sigBack", inPlace := ["math/bits.Add64"], unfollowed := true, recurses := true, apart := false }
def SigBackSaid : Prop := sigBackRow.holds Try.pinned (OpenSpec.ofChange sigBackSpec)

/-- ITS FALSE NEIGHBOUR: 'it returns false'. Refute it at one input. -/
def sigBackWrong : ChangeSpec := { name := "sigBack", fn := fun _ => fun
  | [d] => { results := [.lit (.bool false)], args := [d] }
  | _ => none }
def SigBackWrongFalsely : Prop := sigBackRow.holds Try.pinned (OpenSpec.ofChange sigBackWrong)

/-- 'pyxlaw07.SigSpoilt': WHATEVER THE INPUT: true; the input reads as it did. -/
def sigSpoiltSpec : ChangeSpec := { name := "sigSpoilt", fn := fun _ => fun
  | [d] => { results := [.lit (.bool true)], args := [d] }
  | _ => none }
def sigSpoiltRow : OpenClaim := { program := "ytifpdpfjhjoieaa", sum := "f4d71e327aa6fe594821f3dc2f4dd1ddd3758969aad150f5aa48c9dacabade5b", func := "pyx/pyxlaw07.SigSpoilt", spec := "sigSpoilt", inPlace := ["math/bits.Add64"], unfollowed := true, recurses := true, apart := false }
def SigSpoiltSaid : Prop := sigSpoiltRow.holds Try.pinned (OpenSpec.ofChange sigSpoiltSpec)

/-- ITS FALSE NEIGHBOUR: 'it returns false'. Refute it at one input. -/
def sigSpoiltWrong : ChangeSpec := { name := "sigSpoilt", fn := fun _ => fun
  | [d] => { results := [.lit (.bool false)], args := [d] }
  | _ => none }
def SigSpoiltWrongFalsely : Prop := sigSpoiltRow.holds Try.pinned (OpenSpec.ofChange sigSpoiltWrong)

/-- 'pyxlaw07.SigWrapped': WHATEVER THE INPUT: true; the input reads as it did. -/
def sigWrappedSpec : ChangeSpec := { name := "sigWrapped", fn := fun _ => fun
  | [d] => { results := [.lit (.bool true)], args := [d] }
  | _ => none }
def sigWrappedRow : OpenClaim := { program := "ytifpdpfjhjoieaa", sum := "f4d71e327aa6fe594821f3dc2f4dd1ddd3758969aad150f5aa48c9dacabade5b", func := "pyx/pyxlaw07.SigWrapped", spec := "sigWrapped", inPlace := ["math/bits.Add64"], unfollowed := true, recurses := true, apart := false }
def SigWrappedSaid : Prop := sigWrappedRow.holds Try.pinned (OpenSpec.ofChange sigWrappedSpec)

/-- ITS FALSE NEIGHBOUR: 'it returns false'. Refute it at one input. -/
def sigWrappedWrong : ChangeSpec := { name := "sigWrapped", fn := fun _ => fun
  | [d] => { results := [.lit (.bool false)], args := [d] }
  | _ => none }
def SigWrappedWrongFalsely : Prop := sigWrappedRow.holds Try.pinned (OpenSpec.ofChange sigWrappedWrong)

/- THE SECOND FORM. 'bulk': how many values and letters a reading holds, each counted each time it is reached (what is shared counts as often as it is met; a slice's spare places count too). A statement '..UptoSaid' is the law's where the arguments, and the package variables that the reading takes, are together of bulk at most 1048576: NARROWER than '..Said'. Prove '..Said' where nothing that the law and all that it calls make is longer than what came in: it says more and counts as full. Else prove '..UptoSaid'. A law counts once. -/
mutual
def uptoBulk {H : Type} : DataW H → Nat
  | .lit (.string bytes) => bytes.length + 1
  | .lit _ => 1
  | .nil => 1
  | .ptr d => uptoBulk d + 1
  | .slice elems spare => uptoBulkAll elems + uptoBulkAll spare + 1
  | .agg parts => uptoBulkAll parts + 1
  | .iface _ d => uptoBulk d + 1
  | .map entries => uptoBulkEntries entries + 1
  | .held _ => 1
def uptoBulkAll {H : Type} : List (DataW H) → Nat
  | [] => 0
  | d :: r => uptoBulk d + uptoBulkAll r
def uptoBulkEntries {H : Type} : List (Lit × DataW H) → Nat
  | [] => 0
  | x :: r => uptoBulkEntry x + uptoBulkEntries r
def uptoBulkEntry {H : Type} : Lit × DataW H → Nat
  | (.string bytes, d) => bytes.length + uptoBulk d + 1
  | (_, d) => uptoBulk d + 1
 end
def uptoSmall : (H : Type) → List (DataW H) → Bool := fun _ ds => decide (uptoBulkAll ds ≤ 1048576)
def OpenSpec.upto (s : _root_.Go.ChangeSpec) : _root_.Go.OpenSpec := { _root_.Go.OpenSpec.ofChange s with cond := some uptoSmall }

/-- 'pyxlaw06.SealTells', WHERE WHAT IT READS IS OF BULK AT MOST 1048576: true; the input reads as it did. -/
def sealTellsUptoRow : OpenClaim := { program := "ytifpdpfjhjoieaa", sum := "f4d71e327aa6fe594821f3dc2f4dd1ddd3758969aad150f5aa48c9dacabade5b", func := "pyx/pyxlaw06.SealTells", spec := "sealTells", inPlace := ["math/bits.Add64"], unfollowed := true, recurses := true, apart := false, narrowed := true }
def SealTellsUptoSaid : Prop := sealTellsUptoRow.holds Try.pinned (OpenSpec.upto sealTellsSpec)

/-- 'pyxlaw06.SealBack', WHERE WHAT IT READS IS OF BULK AT MOST 1048576: true; the input reads as it did. -/
def sealBackUptoRow : OpenClaim := { program := "ytifpdpfjhjoieaa", sum := "f4d71e327aa6fe594821f3dc2f4dd1ddd3758969aad150f5aa48c9dacabade5b", func := "pyx/pyxlaw06.SealBack", spec := "sealBack", inPlace := ["math/bits.Add64"], unfollowed := true, recurses := true, apart := false, narrowed := true }
def SealBackUptoSaid : Prop := sealBackUptoRow.holds Try.pinned (OpenSpec.upto sealBackSpec)

/-- 'pyxlaw06.SealSpoilt', WHERE WHAT IT READS IS OF BULK AT MOST 1048576: true; the input reads as it did. -/
def sealSpoiltUptoRow : OpenClaim := { program := "ytifpdpfjhjoieaa", sum := "f4d71e327aa6fe594821f3dc2f4dd1ddd3758969aad150f5aa48c9dacabade5b", func := "pyx/pyxlaw06.SealSpoilt", spec := "sealSpoilt", inPlace := ["math/bits.Add64"], unfollowed := true, recurses := true, apart := false, narrowed := true }
def SealSpoiltUptoSaid : Prop := sealSpoiltUptoRow.holds Try.pinned (OpenSpec.upto sealSpoiltSpec)

/-- 'pyxlaw06.SealNonces', WHERE WHAT IT READS IS OF BULK AT MOST 1048576: true; the input reads as it did. -/
def sealNoncesUptoRow : OpenClaim := { program := "ytifpdpfjhjoieaa", sum := "f4d71e327aa6fe594821f3dc2f4dd1ddd3758969aad150f5aa48c9dacabade5b", func := "pyx/pyxlaw06.SealNonces", spec := "sealNonces", inPlace := ["math/bits.Add64"], unfollowed := true, recurses := true, apart := false, narrowed := true }
def SealNoncesUptoSaid : Prop := sealNoncesUptoRow.holds Try.pinned (OpenSpec.upto sealNoncesSpec)

/-- 'pyxlaw06.SealLocked', WHERE WHAT IT READS IS OF BULK AT MOST 1048576: true; the input reads as it did. -/
def sealLockedUptoRow : OpenClaim := { program := "ytifpdpfjhjoieaa", sum := "f4d71e327aa6fe594821f3dc2f4dd1ddd3758969aad150f5aa48c9dacabade5b", func := "pyx/pyxlaw06.SealLocked", spec := "sealLocked", inPlace := ["math/bits.Add64"], unfollowed := true, recurses := true, apart := false, narrowed := true }
def SealLockedUptoSaid : Prop := sealLockedUptoRow.holds Try.pinned (OpenSpec.upto sealLockedSpec)

/-- 'pyxlaw07.SigTells', WHERE WHAT IT READS IS OF BULK AT MOST 1048576: true; the input reads as it did. -/
def sigTellsUptoRow : OpenClaim := { program := "ytifpdpfjhjoieaa", sum := "f4d71e327aa6fe594821f3dc2f4dd1ddd3758969aad150f5aa48c9dacabade5b", func := "pyx/pyxlaw07.SigTells", spec := "sigTells", inPlace := ["math/bits.Add64"], unfollowed := true, recurses := true, apart := false, narrowed := true }
def SigTellsUptoSaid : Prop := sigTellsUptoRow.holds Try.pinned (OpenSpec.upto sigTellsSpec)

/-- 'pyxlaw07.SigWraps', WHERE WHAT IT READS IS OF BULK AT MOST 1048576: true; the input reads as it did. -/
def sigWrapsUptoRow : OpenClaim := { program := "ytifpdpfjhjoieaa", sum := "f4d71e327aa6fe594821f3dc2f4dd1ddd3758969aad150f5aa48c9dacabade5b", func := "pyx/pyxlaw07.SigWraps", spec := "sigWraps", inPlace := ["math/bits.Add64"], unfollowed := true, recurses := true, apart := false, narrowed := true }
def SigWrapsUptoSaid : Prop := sigWrapsUptoRow.holds Try.pinned (OpenSpec.upto sigWrapsSpec)

/-- 'pyxlaw07.SigBack', WHERE WHAT IT READS IS OF BULK AT MOST 1048576: true; the input reads as it did. -/
def sigBackUptoRow : OpenClaim := { program := "ytifpdpfjhjoieaa", sum := "f4d71e327aa6fe594821f3dc2f4dd1ddd3758969aad150f5aa48c9dacabade5b", func := "pyx/pyxlaw07.SigBack", spec := "sigBack", inPlace := ["math/bits.Add64"], unfollowed := true, recurses := true, apart := false, narrowed := true }
def SigBackUptoSaid : Prop := sigBackUptoRow.holds Try.pinned (OpenSpec.upto sigBackSpec)

/-- 'pyxlaw07.SigSpoilt', WHERE WHAT IT READS IS OF BULK AT MOST 1048576: true; the input reads as it did. -/
def sigSpoiltUptoRow : OpenClaim := { program := "ytifpdpfjhjoieaa", sum := "f4d71e327aa6fe594821f3dc2f4dd1ddd3758969aad150f5aa48c9dacabade5b", func := "pyx/pyxlaw07.SigSpoilt", spec := "sigSpoilt", inPlace := ["math/bits.Add64"], unfollowed := true, recurses := true, apart := false, narrowed := true }
def SigSpoiltUptoSaid : Prop := sigSpoiltUptoRow.holds Try.pinned (OpenSpec.upto sigSpoiltSpec)

/-- 'pyxlaw07.SigWrapped', WHERE WHAT IT READS IS OF BULK AT MOST 1048576: true; the input reads as it did. -/
def sigWrappedUptoRow : OpenClaim := { program := "ytifpdpfjhjoieaa", sum := "f4d71e327aa6fe594821f3dc2f4dd1ddd3758969aad150f5aa48c9dacabade5b", func := "pyx/pyxlaw07.SigWrapped", spec := "sigWrapped", inPlace := ["math/bits.Add64"], unfollowed := true, recurses := true, apart := false, narrowed := true }
def SigWrappedUptoSaid : Prop := sigWrappedUptoRow.holds Try.pinned (OpenSpec.upto sigWrappedSpec)

end Rows
end Go.Proofs.Ytifpdpfjhjoieaa
