/-
  No cell of these rows narrows 'for every input' (looked for: loops, veiled, ifaces, maps, wideKeys, modest, calm, conditions, laid).
  DERIVED. THE GIVEN ROWS OF THIS SEAT. 12 by the template 'for every input the law returns true; each argument reads behind the call as it read before'; 0 by the template 'total and deterministic' (their statements: YtpdgeanicciaiaaTotals.lean).
  GIVEN WITH THE SEED: the statements are not yours to turn. If you find one false, say at which input.
  Laid BY PROGRAM, IN A SANDBOX (cutbox-rows.mjs): the forced cells as the released guide's own fill.sh prints them over the translation ac5053d5fe9f47f8… (all of the seat's roots in one cut). By AI agents, Wed Nov 11 2026. No macro, syntax, notation, axiom, sorry.
-/
import Derived.Test.YtpdgeanicciaiaaChecked
import GoSem.Claim
import GoSem.ClaimJoined
import GoSem.ClaimMapViews
import Derived.JoinedTies
import Derived.KernelRfl
namespace Go.Proofs.Ytpdgeanicciaiaa
/- THE CELL 'sum', in the pinned program and in every row, IS THE sha256 OF THE DUMP (.gsa) THAT YtpdgeanicciaiaaProg.lean LOADS. Nothing in Lean hashes anything: it is a label: what it is worth is what the hold of that sum in a sandbox is worth. -/
noncomputable def Try.pinned : Pinned := { name := "ytpdgeanicciaiaa", sum := "ac5053d5fe9f47f84eb3b646ea18f02dc69ae1252eae5ce9cf3d07cab0a3598a", checked := Try.checked }
namespace Rows
def none {H : Type} : Left H := { results := [], args := [] }

/-- 'pyxlaw04.KdfTells': WHATEVER THE INPUT: true; the input reads as it did. -/
def kdfTellsSpec : ChangeSpec := { name := "kdfTells", fn := fun _ => fun
  | [d] => { results := [.lit (.bool true)], args := [d] }
  | _ => none }
def kdfTellsRow : OpenClaim := { program := "ytpdgeanicciaiaa", sum := "ac5053d5fe9f47f84eb3b646ea18f02dc69ae1252eae5ce9cf3d07cab0a3598a", func := "pyx/pyxlaw04.KdfTells", spec := "kdfTells", inPlace := ["math/bits.Add64"], unfollowed := true, recurses := true, apart := false }
def KdfTellsSaid : Prop := kdfTellsRow.holds Try.pinned (OpenSpec.ofChange kdfTellsSpec)

/-- ITS FALSE NEIGHBOUR: 'it returns false'. Refute it at one input. -/
def kdfTellsWrong : ChangeSpec := { name := "kdfTells", fn := fun _ => fun
  | [d] => { results := [.lit (.bool false)], args := [d] }
  | _ => none }
def KdfTellsWrongFalsely : Prop := kdfTellsRow.holds Try.pinned (OpenSpec.ofChange kdfTellsWrong)

/-- 'pyxlaw04.KdfPass': WHATEVER THE INPUT: true; the input reads as it did. -/
def kdfPassSpec : ChangeSpec := { name := "kdfPass", fn := fun _ => fun
  | [d] => { results := [.lit (.bool true)], args := [d] }
  | _ => none }
def kdfPassRow : OpenClaim := { program := "ytpdgeanicciaiaa", sum := "ac5053d5fe9f47f84eb3b646ea18f02dc69ae1252eae5ce9cf3d07cab0a3598a", func := "pyx/pyxlaw04.KdfPass", spec := "kdfPass", inPlace := ["math/bits.Add64"], unfollowed := true, recurses := true, apart := false }
def KdfPassSaid : Prop := kdfPassRow.holds Try.pinned (OpenSpec.ofChange kdfPassSpec)

/-- ITS FALSE NEIGHBOUR: 'it returns false'. Refute it at one input. -/
def kdfPassWrong : ChangeSpec := { name := "kdfPass", fn := fun _ => fun
  | [d] => { results := [.lit (.bool false)], args := [d] }
  | _ => none }
def KdfPassWrongFalsely : Prop := kdfPassRow.holds Try.pinned (OpenSpec.ofChange kdfPassWrong)

/-- 'pyxlaw04.KdfBegins': WHATEVER THE INPUT: true; the input reads as it did. -/
def kdfBeginsSpec : ChangeSpec := { name := "kdfBegins", fn := fun _ => fun
  | [d] => { results := [.lit (.bool true)], args := [d] }
  | _ => none }
def kdfBeginsRow : OpenClaim := { program := "ytpdgeanicciaiaa", sum := "ac5053d5fe9f47f84eb3b646ea18f02dc69ae1252eae5ce9cf3d07cab0a3598a", func := "pyx/pyxlaw04.KdfBegins", spec := "kdfBegins", inPlace := ["math/bits.Add64"], unfollowed := true, recurses := true, apart := false }
def KdfBeginsSaid : Prop := kdfBeginsRow.holds Try.pinned (OpenSpec.ofChange kdfBeginsSpec)

/-- ITS FALSE NEIGHBOUR: 'it returns false'. Refute it at one input. -/
def kdfBeginsWrong : ChangeSpec := { name := "kdfBegins", fn := fun _ => fun
  | [d] => { results := [.lit (.bool false)], args := [d] }
  | _ => none }
def KdfBeginsWrongFalsely : Prop := kdfBeginsRow.holds Try.pinned (OpenSpec.ofChange kdfBeginsWrong)

/-- 'pyxlaw04.KdfLabels': WHATEVER THE INPUT: true; the input reads as it did. -/
def kdfLabelsSpec : ChangeSpec := { name := "kdfLabels", fn := fun _ => fun
  | [d] => { results := [.lit (.bool true)], args := [d] }
  | _ => none }
def kdfLabelsRow : OpenClaim := { program := "ytpdgeanicciaiaa", sum := "ac5053d5fe9f47f84eb3b646ea18f02dc69ae1252eae5ce9cf3d07cab0a3598a", func := "pyx/pyxlaw04.KdfLabels", spec := "kdfLabels", inPlace := ["math/bits.Add64"], unfollowed := true, recurses := true, apart := false }
def KdfLabelsSaid : Prop := kdfLabelsRow.holds Try.pinned (OpenSpec.ofChange kdfLabelsSpec)

/-- ITS FALSE NEIGHBOUR: 'it returns false'. Refute it at one input. -/
def kdfLabelsWrong : ChangeSpec := { name := "kdfLabels", fn := fun _ => fun
  | [d] => { results := [.lit (.bool false)], args := [d] }
  | _ => none }
def KdfLabelsWrongFalsely : Prop := kdfLabelsRow.holds Try.pinned (OpenSpec.ofChange kdfLabelsWrong)

/-- 'pyxlaw04.KdfRounds': WHATEVER THE INPUT: true; the input reads as it did. -/
def kdfRoundsSpec : ChangeSpec := { name := "kdfRounds", fn := fun _ => fun
  | [d1, d2, d3] => { results := [.lit (.bool true)], args := [d1, d2, d3] }
  | _ => none }
def kdfRoundsRow : OpenClaim := { program := "ytpdgeanicciaiaa", sum := "ac5053d5fe9f47f84eb3b646ea18f02dc69ae1252eae5ce9cf3d07cab0a3598a", func := "pyx/pyxlaw04.KdfRounds", spec := "kdfRounds", inPlace := ["math/bits.Add64"], unfollowed := true, recurses := true, apart := false }
def KdfRoundsSaid : Prop := kdfRoundsRow.holds Try.pinned (OpenSpec.ofChange kdfRoundsSpec)

/-- ITS FALSE NEIGHBOUR: 'it returns false'. Refute it at one input. -/
def kdfRoundsWrong : ChangeSpec := { name := "kdfRounds", fn := fun _ => fun
  | [d1, d2, d3] => { results := [.lit (.bool false)], args := [d1, d2, d3] }
  | _ => none }
def KdfRoundsWrongFalsely : Prop := kdfRoundsRow.holds Try.pinned (OpenSpec.ofChange kdfRoundsWrong)

/-- 'pyxlaw12.SchedTells': WHATEVER THE INPUT: true; the input reads as it did. -/
def schedTellsSpec : ChangeSpec := { name := "schedTells", fn := fun _ => fun
  | [d] => { results := [.lit (.bool true)], args := [d] }
  | _ => none }
def schedTellsRow : OpenClaim := { program := "ytpdgeanicciaiaa", sum := "ac5053d5fe9f47f84eb3b646ea18f02dc69ae1252eae5ce9cf3d07cab0a3598a", func := "pyx/pyxlaw12.SchedTells", spec := "schedTells", inPlace := ["math/bits.Add64"], unfollowed := true, recurses := true, apart := false }
def SchedTellsSaid : Prop := schedTellsRow.holds Try.pinned (OpenSpec.ofChange schedTellsSpec)

/-- ITS FALSE NEIGHBOUR: 'it returns false'. Refute it at one input. -/
def schedTellsWrong : ChangeSpec := { name := "schedTells", fn := fun _ => fun
  | [d] => { results := [.lit (.bool false)], args := [d] }
  | _ => none }
def SchedTellsWrongFalsely : Prop := schedTellsRow.holds Try.pinned (OpenSpec.ofChange schedTellsWrong)

/-- 'pyxlaw12.SchedMore': WHATEVER THE INPUT: true; the input reads as it did. -/
def schedMoreSpec : ChangeSpec := { name := "schedMore", fn := fun _ => fun
  | [d] => { results := [.lit (.bool true)], args := [d] }
  | _ => none }
def schedMoreRow : OpenClaim := { program := "ytpdgeanicciaiaa", sum := "ac5053d5fe9f47f84eb3b646ea18f02dc69ae1252eae5ce9cf3d07cab0a3598a", func := "pyx/pyxlaw12.SchedMore", spec := "schedMore", inPlace := ["math/bits.Add64"], unfollowed := true, recurses := true, apart := false }
def SchedMoreSaid : Prop := schedMoreRow.holds Try.pinned (OpenSpec.ofChange schedMoreSpec)

/-- ITS FALSE NEIGHBOUR: 'it returns false'. Refute it at one input. -/
def schedMoreWrong : ChangeSpec := { name := "schedMore", fn := fun _ => fun
  | [d] => { results := [.lit (.bool false)], args := [d] }
  | _ => none }
def SchedMoreWrongFalsely : Prop := schedMoreRow.holds Try.pinned (OpenSpec.ofChange schedMoreWrong)

/-- 'pyxlaw12.SchedRight': WHATEVER THE INPUT: true; the input reads as it did. -/
def schedRightSpec : ChangeSpec := { name := "schedRight", fn := fun _ => fun
  | [d] => { results := [.lit (.bool true)], args := [d] }
  | _ => none }
def schedRightRow : OpenClaim := { program := "ytpdgeanicciaiaa", sum := "ac5053d5fe9f47f84eb3b646ea18f02dc69ae1252eae5ce9cf3d07cab0a3598a", func := "pyx/pyxlaw12.SchedRight", spec := "schedRight", inPlace := ["math/bits.Add64"], unfollowed := true, recurses := true, apart := false }
def SchedRightSaid : Prop := schedRightRow.holds Try.pinned (OpenSpec.ofChange schedRightSpec)

/-- ITS FALSE NEIGHBOUR: 'it returns false'. Refute it at one input. -/
def schedRightWrong : ChangeSpec := { name := "schedRight", fn := fun _ => fun
  | [d] => { results := [.lit (.bool false)], args := [d] }
  | _ => none }
def SchedRightWrongFalsely : Prop := schedRightRow.holds Try.pinned (OpenSpec.ofChange schedRightWrong)

/-- 'pyxlaw12.SchedContexts': WHATEVER THE INPUT: true; the input reads as it did. -/
def schedContextsSpec : ChangeSpec := { name := "schedContexts", fn := fun _ => fun
  | [d] => { results := [.lit (.bool true)], args := [d] }
  | _ => none }
def schedContextsRow : OpenClaim := { program := "ytpdgeanicciaiaa", sum := "ac5053d5fe9f47f84eb3b646ea18f02dc69ae1252eae5ce9cf3d07cab0a3598a", func := "pyx/pyxlaw12.SchedContexts", spec := "schedContexts", inPlace := ["math/bits.Add64"], unfollowed := true, recurses := true, apart := false }
def SchedContextsSaid : Prop := schedContextsRow.holds Try.pinned (OpenSpec.ofChange schedContextsSpec)

/-- ITS FALSE NEIGHBOUR: 'it returns false'. Refute it at one input. -/
def schedContextsWrong : ChangeSpec := { name := "schedContexts", fn := fun _ => fun
  | [d] => { results := [.lit (.bool false)], args := [d] }
  | _ => none }
def SchedContextsWrongFalsely : Prop := schedContextsRow.holds Try.pinned (OpenSpec.ofChange schedContextsWrong)

/-- 'pyxlaw12.SchedLogs': WHATEVER THE INPUT: true; the input reads as it did. -/
def schedLogsSpec : ChangeSpec := { name := "schedLogs", fn := fun _ => fun
  | [d1, d2, d3] => { results := [.lit (.bool true)], args := [d1, d2, d3] }
  | _ => none }
def schedLogsRow : OpenClaim := { program := "ytpdgeanicciaiaa", sum := "ac5053d5fe9f47f84eb3b646ea18f02dc69ae1252eae5ce9cf3d07cab0a3598a", func := "pyx/pyxlaw12.SchedLogs", spec := "schedLogs", inPlace := ["math/bits.Add64"], unfollowed := true, recurses := true, apart := false }
def SchedLogsSaid : Prop := schedLogsRow.holds Try.pinned (OpenSpec.ofChange schedLogsSpec)

/-- ITS FALSE NEIGHBOUR: 'it returns false'. Refute it at one input. -/
def schedLogsWrong : ChangeSpec := { name := "schedLogs", fn := fun _ => fun
  | [d1, d2, d3] => { results := [.lit (.bool false)], args := [d1, d2, d3] }
  | _ => none }
def SchedLogsWrongFalsely : Prop := schedLogsRow.holds Try.pinned (OpenSpec.ofChange schedLogsWrong)

/-- 'pyxlaw12.SchedJoins': WHATEVER THE INPUT: true; the input reads as it did. -/
def schedJoinsSpec : ChangeSpec := { name := "schedJoins", fn := fun _ => fun
  | [d] => { results := [.lit (.bool true)], args := [d] }
  | _ => none }
def schedJoinsRow : OpenClaim := { program := "ytpdgeanicciaiaa", sum := "ac5053d5fe9f47f84eb3b646ea18f02dc69ae1252eae5ce9cf3d07cab0a3598a", func := "pyx/pyxlaw12.SchedJoins", spec := "schedJoins", inPlace := ["math/bits.Add64"], unfollowed := true, recurses := true, apart := false }
def SchedJoinsSaid : Prop := schedJoinsRow.holds Try.pinned (OpenSpec.ofChange schedJoinsSpec)

/-- ITS FALSE NEIGHBOUR: 'it returns false'. Refute it at one input. -/
def schedJoinsWrong : ChangeSpec := { name := "schedJoins", fn := fun _ => fun
  | [d] => { results := [.lit (.bool false)], args := [d] }
  | _ => none }
def SchedJoinsWrongFalsely : Prop := schedJoinsRow.holds Try.pinned (OpenSpec.ofChange schedJoinsWrong)

/-- 'pyxlaw12.SchedExports': WHATEVER THE INPUT: true; the input reads as it did. -/
def schedExportsSpec : ChangeSpec := { name := "schedExports", fn := fun _ => fun
  | [d] => { results := [.lit (.bool true)], args := [d] }
  | _ => none }
def schedExportsRow : OpenClaim := { program := "ytpdgeanicciaiaa", sum := "ac5053d5fe9f47f84eb3b646ea18f02dc69ae1252eae5ce9cf3d07cab0a3598a", func := "pyx/pyxlaw12.SchedExports", spec := "schedExports", inPlace := ["math/bits.Add64"], unfollowed := true, recurses := true, apart := false }
def SchedExportsSaid : Prop := schedExportsRow.holds Try.pinned (OpenSpec.ofChange schedExportsSpec)

/-- ITS FALSE NEIGHBOUR: 'it returns false'. Refute it at one input. -/
def schedExportsWrong : ChangeSpec := { name := "schedExports", fn := fun _ => fun
  | [d] => { results := [.lit (.bool false)], args := [d] }
  | _ => none }
def SchedExportsWrongFalsely : Prop := schedExportsRow.holds Try.pinned (OpenSpec.ofChange schedExportsWrong)

/- THE SECOND FORM. 'bulk': how many values and letters a reading holds, each counted each time it is reached (what is shared counts as often as it is met; a slice's spare places count too). A statement '..UptoSaid' is the law's where the arguments, and the package variables that the reading takes, are together of bulk at most 1048576: NARROWER than '..Said'. Prove '..Said' where nothing that the law and all that it calls make is longer than what came in: it says more and counts as full. Else prove '..UptoSaid'. A law counts once. -/
mutual
def uptoBulk {H : Type} : DataW H → Nat
  | .lit (.string bytes) => bytes.length + 1
  | .lit _ => 1
  | .nil => 1
  | .ptr d => uptoBulk d + 1
  | .slice elems spare => uptoBulkAll elems + uptoBulkAll spare + 1
  | .agg parts => uptoBulkAll parts + 1
  | .iface _ d => uptoBulk d + 1
  | .map entries => uptoBulkEntries entries + 1
  | .held _ => 1
def uptoBulkAll {H : Type} : List (DataW H) → Nat
  | [] => 0
  | d :: r => uptoBulk d + uptoBulkAll r
def uptoBulkEntries {H : Type} : List (Lit × DataW H) → Nat
  | [] => 0
  | x :: r => uptoBulkEntry x + uptoBulkEntries r
def uptoBulkEntry {H : Type} : Lit × DataW H → Nat
  | (.string bytes, d) => bytes.length + uptoBulk d + 1
  | (_, d) => uptoBulk d + 1
 end
def uptoSmall : (H : Type) → List (DataW H) → Bool := fun _ ds => decide (uptoBulkAll ds ≤ 1048576)
def OpenSpec.upto (s : _root_.Go.ChangeSpec) : _root_.Go.OpenSpec := { _root_.Go.OpenSpec.ofChange s with cond := some uptoSmall }

/-- 'pyxlaw04.KdfTells', WHERE WHAT IT READS IS OF BULK AT MOST 1048576: true; the input reads as it did. -/
def kdfTellsUptoRow : OpenClaim := { program := "ytpdgeanicciaiaa", sum := "ac5053d5fe9f47f84eb3b646ea18f02dc69ae1252eae5ce9cf3d07cab0a3598a", func := "pyx/pyxlaw04.KdfTells", spec := "kdfTells", inPlace := ["math/bits.Add64"], unfollowed := true, recurses := true, apart := false, narrowed := true }
def KdfTellsUptoSaid : Prop := kdfTellsUptoRow.holds Try.pinned (OpenSpec.upto kdfTellsSpec)

/-- 'pyxlaw04.KdfPass', WHERE WHAT IT READS IS OF BULK AT MOST 1048576: true; the input reads as it did. -/
def kdfPassUptoRow : OpenClaim := { program := "ytpdgeanicciaiaa", sum := "ac5053d5fe9f47f84eb3b646ea18f02dc69ae1252eae5ce9cf3d07cab0a3598a", func := "pyx/pyxlaw04.KdfPass", spec := "kdfPass", inPlace := ["math/bits.Add64"], unfollowed := true, recurses := true, apart := false, narrowed := true }
def KdfPassUptoSaid : Prop := kdfPassUptoRow.holds Try.pinned (OpenSpec.upto kdfPassSpec)

/-- 'pyxlaw04.KdfBegins', WHERE WHAT IT READS IS OF BULK AT MOST 1048576: true; the input reads as it did. -/
def kdfBeginsUptoRow : OpenClaim := { program := "ytpdgeanicciaiaa", sum := "ac5053d5fe9f47f84eb3b646ea18f02dc69ae1252eae5ce9cf3d07cab0a3598a", func := "pyx/pyxlaw04.KdfBegins", spec := "kdfBegins", inPlace := ["math/bits.Add64"], unfollowed := true, recurses := true, apart := false, narrowed := true }
def KdfBeginsUptoSaid : Prop := kdfBeginsUptoRow.holds Try.pinned (OpenSpec.upto kdfBeginsSpec)

/-- 'pyxlaw04.KdfLabels', WHERE WHAT IT READS IS OF BULK AT MOST 1048576: true; the input reads as it did. -/
def kdfLabelsUptoRow : OpenClaim := { program := "ytpdgeanicciaiaa", sum := "ac5053d5fe9f47f84eb3b646ea18f02dc69ae1252eae5ce9cf3d07cab0a3598a", func := "pyx/pyxlaw04.KdfLabels", spec := "kdfLabels", inPlace := ["math/bits.Add64"], unfollowed := true, recurses := true, apart := false, narrowed := true }
def KdfLabelsUptoSaid : Prop := kdfLabelsUptoRow.holds Try.pinned (OpenSpec.upto kdfLabelsSpec)

/-- 'pyxlaw04.KdfRounds', WHERE WHAT IT READS IS OF BULK AT MOST 1048576: true; the input reads as it did. -/
def kdfRoundsUptoRow : OpenClaim := { program := "ytpdgeanicciaiaa", sum := "ac5053d5fe9f47f84eb3b646ea18f02dc69ae1252eae5ce9cf3d07cab0a3598a", func := "pyx/pyxlaw04.KdfRounds", spec := "kdfRounds", inPlace := ["math/bits.Add64"], unfollowed := true, recurses := true, apart := false, narrowed := true }
def KdfRoundsUptoSaid : Prop := kdfRoundsUptoRow.holds Try.pinned (OpenSpec.upto kdfRoundsSpec)

/-- 'pyxlaw12.SchedTells', WHERE WHAT IT READS IS OF BULK AT MOST 1048576: true; the input reads as it did. -/
def schedTellsUptoRow : OpenClaim := { program := "ytpdgeanicciaiaa", sum := "ac5053d5fe9f47f84eb3b646ea18f02dc69ae1252eae5ce9cf3d07cab0a3598a", func := "pyx/pyxlaw12.SchedTells", spec := "schedTells", inPlace := ["math/bits.Add64"], unfollowed := true, recurses := true, apart := false, narrowed := true }
def SchedTellsUptoSaid : Prop := schedTellsUptoRow.holds Try.pinned (OpenSpec.upto schedTellsSpec)

/-- 'pyxlaw12.SchedMore', WHERE WHAT IT READS IS OF BULK AT MOST 1048576: true; the input reads as it did. -/
def schedMoreUptoRow : OpenClaim := { program := "ytpdgeanicciaiaa", sum := "ac5053d5fe9f47f84eb3b646ea18f02dc69ae1252eae5ce9cf3d07cab0a3598a", func := "pyx/pyxlaw12.SchedMore", spec := "schedMore", inPlace := ["math/bits.Add64"], unfollowed := true, recurses := true, apart := false, narrowed := true }
def SchedMoreUptoSaid : Prop := schedMoreUptoRow.holds Try.pinned (OpenSpec.upto schedMoreSpec)

/-- 'pyxlaw12.SchedRight', WHERE WHAT IT READS IS OF BULK AT MOST 1048576: true; the input reads as it did. -/
def schedRightUptoRow : OpenClaim := { program := "ytpdgeanicciaiaa", sum := "ac5053d5fe9f47f84eb3b646ea18f02dc69ae1252eae5ce9cf3d07cab0a3598a", func := "pyx/pyxlaw12.SchedRight", spec := "schedRight", inPlace := ["math/bits.Add64"], unfollowed := true, recurses := true, apart := false, narrowed := true }
def SchedRightUptoSaid : Prop := schedRightUptoRow.holds Try.pinned (OpenSpec.upto schedRightSpec)

/-- 'pyxlaw12.SchedContexts', WHERE WHAT IT READS IS OF BULK AT MOST 1048576: true; the input reads as it did. -/
def schedContextsUptoRow : OpenClaim := { program := "ytpdgeanicciaiaa", sum := "ac5053d5fe9f47f84eb3b646ea18f02dc69ae1252eae5ce9cf3d07cab0a3598a", func := "pyx/pyxlaw12.SchedContexts", spec := "schedContexts", inPlace := ["math/bits.Add64"], unfollowed := true, recurses := true, apart := false, narrowed := true }
def SchedContextsUptoSaid : Prop := schedContextsUptoRow.holds Try.pinned (OpenSpec.upto schedContextsSpec)

/-- 'pyxlaw12.SchedLogs', WHERE WHAT IT READS IS OF BULK AT MOST 1048576: true; the input reads as it did. -/
def schedLogsUptoRow : OpenClaim := { program := "ytpdgeanicciaiaa", sum := "ac5053d5fe9f47f84eb3b646ea18f02dc69ae1252eae5ce9cf3d07cab0a3598a", func := "pyx/pyxlaw12.SchedLogs", spec := "schedLogs", inPlace := ["math/bits.Add64"], unfollowed := true, recurses := true, apart := false, narrowed := true }
def SchedLogsUptoSaid : Prop := schedLogsUptoRow.holds Try.pinned (OpenSpec.upto schedLogsSpec)

/-- 'pyxlaw12.SchedJoins', WHERE WHAT IT READS IS OF BULK AT MOST 1048576: true; the input reads as it did. -/
def schedJoinsUptoRow : OpenClaim := { program := "ytpdgeanicciaiaa", sum := "ac5053d5fe9f47f84eb3b646ea18f02dc69ae1252eae5ce9cf3d07cab0a3598a", func := "pyx/pyxlaw12.SchedJoins", spec := "schedJoins", inPlace := ["math/bits.Add64"], unfollowed := true, recurses := true, apart := false, narrowed := true }
def SchedJoinsUptoSaid : Prop := schedJoinsUptoRow.holds Try.pinned (OpenSpec.upto schedJoinsSpec)

/-- 'pyxlaw12.SchedExports', WHERE WHAT IT READS IS OF BULK AT MOST 1048576: true; the input reads as it did. -/
def schedExportsUptoRow : OpenClaim := { program := "ytpdgeanicciaiaa", sum := "ac5053d5fe9f47f84eb3b646ea18f02dc69ae1252eae5ce9cf3d07cab0a3598a", func := "pyx/pyxlaw12.SchedExports", spec := "schedExports", inPlace := ["math/bits.Add64"], unfollowed := true, recurses := true, apart := false, narrowed := true }
def SchedExportsUptoSaid : Prop := schedExportsUptoRow.holds Try.pinned (OpenSpec.upto schedExportsSpec)

end Rows
end Go.Proofs.Ytpdgeanicciaiaa
