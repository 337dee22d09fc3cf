/-
  NARROWER THAN 'FOR EVERY INPUT', by the rows' own cells (each row's printed sentence says how): RatchTells: laid · RatchTakes: laid · RatchOnce: laid · RatchTree: laid · RatchSpares: laid · RatchSecrets: laid · RatchEnds: laid.
  DERIVED. THE GIVEN ROWS OF THIS SEAT. 7 by the template 'for every input the law returns true; each argument reads behind the call as it read before'; 0 by the template 'total and deterministic' (their statements: YtdklmafkcbjomaaDoorTotals.lean).
  GIVEN WITH THE SEED: the statements are not yours to turn. If you find one false, say at which input.
  Laid BY PROGRAM, IN A SANDBOX (cutbox-rows.mjs): the forced cells as the released guide's own fill.sh prints them over the translation 82f8beff66d41211… (all of the seat's roots in one cut). By AI agents, Wed Nov 11 2026. No macro, syntax, notation, axiom, sorry.
-/
import Derived.Test.YtdklmafkcbjomaaDoorChecked
import GoSem.Claim
import GoSem.ClaimJoined
import GoSem.ClaimMapViews
import Derived.JoinedTies
import Derived.KernelRfl
namespace Go.Proofs.YtdklmafkcbjomaaDoor
/- THE CELL 'sum', in the pinned program and in every row, IS THE sha256 OF THE DUMP (.gsa) THAT YtdklmafkcbjomaaDoorProg.lean LOADS. Nothing in Lean hashes anything: it is a label: what it is worth is what the hold of that sum in a sandbox is worth. -/
noncomputable def Tryd.pinned : Pinned := { name := "ytdklmafkcbjomaadoor", sum := "82f8beff66d4121112ccf26e9e5b099723fc1fb07648ee93227d3c748d849716", checked := Tryd.checked }
namespace Rows
def none {H : Type} : Left H := { results := [], args := [] }

/- WHAT THE LISTED PACKAGE-LEVEL VARIABLES READ AS WHEN THE CALL BEGINS. Each datum BY PROGRAM (the guide's laid-datum.mjs) off the statement by which the dump's own 'gosem.cut.vars' lays the variable. In a bare row this is a premise. The card (YtdklmafkcbjomaaDoorCards.lean) ties it to the program's text. -/
def laid_math_bits_deBruijn32tab {H : Type} : DataW H := .agg [.lit (.int .u8 0), .lit (.int .u8 1), .lit (.int .u8 28), .lit (.int .u8 2), .lit (.int .u8 29), .lit (.int .u8 14), .lit (.int .u8 24), .lit (.int .u8 3), .lit (.int .u8 30), .lit (.int .u8 22), .lit (.int .u8 20), .lit (.int .u8 15), .lit (.int .u8 25), .lit (.int .u8 17), .lit (.int .u8 4), .lit (.int .u8 8), .lit (.int .u8 31), .lit (.int .u8 27), .lit (.int .u8 13), .lit (.int .u8 23), .lit (.int .u8 21), .lit (.int .u8 19), .lit (.int .u8 16), .lit (.int .u8 7), .lit (.int .u8 26), .lit (.int .u8 12), .lit (.int .u8 18), .lit (.int .u8 6), .lit (.int .u8 11), .lit (.int .u8 5), .lit (.int .u8 10), .lit (.int .u8 9)]
def laid_math_bits_deBruijn64tab {H : Type} : DataW H := .agg [.lit (.int .u8 0), .lit (.int .u8 1), .lit (.int .u8 56), .lit (.int .u8 2), .lit (.int .u8 57), .lit (.int .u8 49), .lit (.int .u8 28), .lit (.int .u8 3), .lit (.int .u8 61), .lit (.int .u8 58), .lit (.int .u8 42), .lit (.int .u8 50), .lit (.int .u8 38), .lit (.int .u8 29), .lit (.int .u8 17), .lit (.int .u8 4), .lit (.int .u8 62), .lit (.int .u8 47), .lit (.int .u8 59), .lit (.int .u8 36), .lit (.int .u8 45), .lit (.int .u8 43), .lit (.int .u8 51), .lit (.int .u8 22), .lit (.int .u8 53), .lit (.int .u8 39), .lit (.int .u8 33), .lit (.int .u8 30), .lit (.int .u8 24), .lit (.int .u8 18), .lit (.int .u8 12), .lit (.int .u8 5), .lit (.int .u8 63), .lit (.int .u8 55), .lit (.int .u8 48), .lit (.int .u8 27), .lit (.int .u8 60), .lit (.int .u8 41), .lit (.int .u8 37), .lit (.int .u8 16), .lit (.int .u8 46), .lit (.int .u8 35), .lit (.int .u8 44), .lit (.int .u8 21), .lit (.int .u8 52), .lit (.int .u8 32), .lit (.int .u8 23), .lit (.int .u8 11), .lit (.int .u8 54), .lit (.int .u8 26), .lit (.int .u8 40), .lit (.int .u8 15), .lit (.int .u8 34), .lit (.int .u8 20), .lit (.int .u8 31), .lit (.int .u8 10), .lit (.int .u8 25), .lit (.int .u8 14), .lit (.int .u8 19), .lit (.int .u8 9), .lit (.int .u8 13), .lit (.int .u8 8), .lit (.int .u8 7), .lit (.int .u8 6)]

/-- 'pyxlaw13.RatchTells': WHATEVER THE INPUT: true; the input reads as it did. -/
def ratchTellsSpec : ChangeSpec := { name := "ratchTells", fn := fun _ => fun
  | [d] => { results := [.lit (.bool true)], args := [d] }
  | _ => none }
def ratchTellsRow : OpenClaim := { program := "ytdklmafkcbjomaadoor", sum := "82f8beff66d4121112ccf26e9e5b099723fc1fb07648ee93227d3c748d849716", func := "pyx/pyxlaw13.RatchTells", spec := "ratchTells", inPlace := ["math/bits.Add64"], unfollowed := true, recurses := true, named := ["math/bits.deBruijn32tab", "math/bits.deBruijn64tab"], apart := false, laid := [("math/bits.deBruijn32tab", laid_math_bits_deBruijn32tab), ("math/bits.deBruijn64tab", laid_math_bits_deBruijn64tab)] }
def RatchTellsSaid : Prop := ratchTellsRow.holds Tryd.pinned (OpenSpec.ofChange ratchTellsSpec)

/-- ITS FALSE NEIGHBOUR: 'it returns false'. Refute it at one input. -/
def ratchTellsWrong : ChangeSpec := { name := "ratchTells", fn := fun _ => fun
  | [d] => { results := [.lit (.bool false)], args := [d] }
  | _ => none }
def RatchTellsWrongFalsely : Prop := ratchTellsRow.holds Tryd.pinned (OpenSpec.ofChange ratchTellsWrong)

/-- 'pyxlaw13.RatchTakes': WHATEVER THE INPUT: true; the input reads as it did. -/
def ratchTakesSpec : ChangeSpec := { name := "ratchTakes", fn := fun _ => fun
  | [d1, d2] => { results := [.lit (.bool true)], args := [d1, d2] }
  | _ => none }
def ratchTakesRow : OpenClaim := { program := "ytdklmafkcbjomaadoor", sum := "82f8beff66d4121112ccf26e9e5b099723fc1fb07648ee93227d3c748d849716", func := "pyx/pyxlaw13.RatchTakes", spec := "ratchTakes", inPlace := ["math/bits.Add64"], unfollowed := true, recurses := true, named := ["math/bits.deBruijn32tab", "math/bits.deBruijn64tab"], apart := false, laid := [("math/bits.deBruijn32tab", laid_math_bits_deBruijn32tab), ("math/bits.deBruijn64tab", laid_math_bits_deBruijn64tab)] }
def RatchTakesSaid : Prop := ratchTakesRow.holds Tryd.pinned (OpenSpec.ofChange ratchTakesSpec)

/-- ITS FALSE NEIGHBOUR: 'it returns false'. Refute it at one input. -/
def ratchTakesWrong : ChangeSpec := { name := "ratchTakes", fn := fun _ => fun
  | [d1, d2] => { results := [.lit (.bool false)], args := [d1, d2] }
  | _ => none }
def RatchTakesWrongFalsely : Prop := ratchTakesRow.holds Tryd.pinned (OpenSpec.ofChange ratchTakesWrong)

/-- 'pyxlaw13.RatchOnce': WHATEVER THE INPUT: true; the input reads as it did. -/
def ratchOnceSpec : ChangeSpec := { name := "ratchOnce", fn := fun _ => fun
  | [d1, d2] => { results := [.lit (.bool true)], args := [d1, d2] }
  | _ => none }
def ratchOnceRow : OpenClaim := { program := "ytdklmafkcbjomaadoor", sum := "82f8beff66d4121112ccf26e9e5b099723fc1fb07648ee93227d3c748d849716", func := "pyx/pyxlaw13.RatchOnce", spec := "ratchOnce", inPlace := ["math/bits.Add64"], unfollowed := true, recurses := true, named := ["math/bits.deBruijn32tab", "math/bits.deBruijn64tab"], apart := false, laid := [("math/bits.deBruijn32tab", laid_math_bits_deBruijn32tab), ("math/bits.deBruijn64tab", laid_math_bits_deBruijn64tab)] }
def RatchOnceSaid : Prop := ratchOnceRow.holds Tryd.pinned (OpenSpec.ofChange ratchOnceSpec)

/-- ITS FALSE NEIGHBOUR: 'it returns false'. Refute it at one input. -/
def ratchOnceWrong : ChangeSpec := { name := "ratchOnce", fn := fun _ => fun
  | [d1, d2] => { results := [.lit (.bool false)], args := [d1, d2] }
  | _ => none }
def RatchOnceWrongFalsely : Prop := ratchOnceRow.holds Tryd.pinned (OpenSpec.ofChange ratchOnceWrong)

/-- 'pyxlaw13.RatchTree': WHATEVER THE INPUT: true; the input reads as it did. -/
def ratchTreeSpec : ChangeSpec := { name := "ratchTree", fn := fun _ => fun
  | [d1, d2, d3] => { results := [.lit (.bool true)], args := [d1, d2, d3] }
  | _ => none }
def ratchTreeRow : OpenClaim := { program := "ytdklmafkcbjomaadoor", sum := "82f8beff66d4121112ccf26e9e5b099723fc1fb07648ee93227d3c748d849716", func := "pyx/pyxlaw13.RatchTree", spec := "ratchTree", inPlace := ["math/bits.Add64"], unfollowed := true, recurses := true, named := ["math/bits.deBruijn32tab", "math/bits.deBruijn64tab"], apart := false, laid := [("math/bits.deBruijn32tab", laid_math_bits_deBruijn32tab), ("math/bits.deBruijn64tab", laid_math_bits_deBruijn64tab)] }
def RatchTreeSaid : Prop := ratchTreeRow.holds Tryd.pinned (OpenSpec.ofChange ratchTreeSpec)

/-- ITS FALSE NEIGHBOUR: 'it returns false'. Refute it at one input. -/
def ratchTreeWrong : ChangeSpec := { name := "ratchTree", fn := fun _ => fun
  | [d1, d2, d3] => { results := [.lit (.bool false)], args := [d1, d2, d3] }
  | _ => none }
def RatchTreeWrongFalsely : Prop := ratchTreeRow.holds Tryd.pinned (OpenSpec.ofChange ratchTreeWrong)

/-- 'pyxlaw13.RatchSpares': WHATEVER THE INPUT: true; the input reads as it did. -/
def ratchSparesSpec : ChangeSpec := { name := "ratchSpares", fn := fun _ => fun
  | [d1, d2, d3] => { results := [.lit (.bool true)], args := [d1, d2, d3] }
  | _ => none }
def ratchSparesRow : OpenClaim := { program := "ytdklmafkcbjomaadoor", sum := "82f8beff66d4121112ccf26e9e5b099723fc1fb07648ee93227d3c748d849716", func := "pyx/pyxlaw13.RatchSpares", spec := "ratchSpares", inPlace := ["math/bits.Add64"], unfollowed := true, recurses := true, named := ["math/bits.deBruijn32tab", "math/bits.deBruijn64tab"], apart := false, laid := [("math/bits.deBruijn32tab", laid_math_bits_deBruijn32tab), ("math/bits.deBruijn64tab", laid_math_bits_deBruijn64tab)] }
def RatchSparesSaid : Prop := ratchSparesRow.holds Tryd.pinned (OpenSpec.ofChange ratchSparesSpec)

/-- ITS FALSE NEIGHBOUR: 'it returns false'. Refute it at one input. -/
def ratchSparesWrong : ChangeSpec := { name := "ratchSpares", fn := fun _ => fun
  | [d1, d2, d3] => { results := [.lit (.bool false)], args := [d1, d2, d3] }
  | _ => none }
def RatchSparesWrongFalsely : Prop := ratchSparesRow.holds Tryd.pinned (OpenSpec.ofChange ratchSparesWrong)

/-- 'pyxlaw13.RatchSecrets': WHATEVER THE INPUT: true; the input reads as it did. -/
def ratchSecretsSpec : ChangeSpec := { name := "ratchSecrets", fn := fun _ => fun
  | [d] => { results := [.lit (.bool true)], args := [d] }
  | _ => none }
def ratchSecretsRow : OpenClaim := { program := "ytdklmafkcbjomaadoor", sum := "82f8beff66d4121112ccf26e9e5b099723fc1fb07648ee93227d3c748d849716", func := "pyx/pyxlaw13.RatchSecrets", spec := "ratchSecrets", inPlace := ["math/bits.Add64"], unfollowed := true, recurses := true, named := ["math/bits.deBruijn32tab", "math/bits.deBruijn64tab"], apart := false, laid := [("math/bits.deBruijn32tab", laid_math_bits_deBruijn32tab), ("math/bits.deBruijn64tab", laid_math_bits_deBruijn64tab)] }
def RatchSecretsSaid : Prop := ratchSecretsRow.holds Tryd.pinned (OpenSpec.ofChange ratchSecretsSpec)

/-- ITS FALSE NEIGHBOUR: 'it returns false'. Refute it at one input. -/
def ratchSecretsWrong : ChangeSpec := { name := "ratchSecrets", fn := fun _ => fun
  | [d] => { results := [.lit (.bool false)], args := [d] }
  | _ => none }
def RatchSecretsWrongFalsely : Prop := ratchSecretsRow.holds Tryd.pinned (OpenSpec.ofChange ratchSecretsWrong)

/-- 'pyxlaw13.RatchEnds': WHATEVER THE INPUT: true; the input reads as it did. -/
def ratchEndsSpec : ChangeSpec := { name := "ratchEnds", fn := fun _ => fun
  | [d1, d2] => { results := [.lit (.bool true)], args := [d1, d2] }
  | _ => none }
def ratchEndsRow : OpenClaim := { program := "ytdklmafkcbjomaadoor", sum := "82f8beff66d4121112ccf26e9e5b099723fc1fb07648ee93227d3c748d849716", func := "pyx/pyxlaw13.RatchEnds", spec := "ratchEnds", inPlace := ["math/bits.Add64"], unfollowed := true, recurses := true, named := ["math/bits.deBruijn32tab", "math/bits.deBruijn64tab"], apart := false, laid := [("math/bits.deBruijn32tab", laid_math_bits_deBruijn32tab), ("math/bits.deBruijn64tab", laid_math_bits_deBruijn64tab)] }
def RatchEndsSaid : Prop := ratchEndsRow.holds Tryd.pinned (OpenSpec.ofChange ratchEndsSpec)

/-- ITS FALSE NEIGHBOUR: 'it returns false'. Refute it at one input. -/
def ratchEndsWrong : ChangeSpec := { name := "ratchEnds", fn := fun _ => fun
  | [d1, d2] => { results := [.lit (.bool false)], args := [d1, d2] }
  | _ => none }
def RatchEndsWrongFalsely : Prop := ratchEndsRow.holds Tryd.pinned (OpenSpec.ofChange ratchEndsWrong)

/- THE SECOND FORM. 'bulk': how many values and letters a reading holds, each counted each time it is reached (what is shared counts as often as it is met; a slice's spare places count too). A statement '..UptoSaid' is the law's where the arguments, and the package variables that the reading takes, are together of bulk at most 1048576: NARROWER than '..Said'. Prove '..Said' where nothing that the law and all that it calls make is longer than what came in: it says more and counts as full. Else prove '..UptoSaid'. A law counts once. -/
mutual
def uptoBulk {H : Type} : DataW H → Nat
  | .lit (.string bytes) => bytes.length + 1
  | .lit _ => 1
  | .nil => 1
  | .ptr d => uptoBulk d + 1
  | .slice elems spare => uptoBulkAll elems + uptoBulkAll spare + 1
  | .agg parts => uptoBulkAll parts + 1
  | .iface _ d => uptoBulk d + 1
  | .map entries => uptoBulkEntries entries + 1
  | .held _ => 1
def uptoBulkAll {H : Type} : List (DataW H) → Nat
  | [] => 0
  | d :: r => uptoBulk d + uptoBulkAll r
def uptoBulkEntries {H : Type} : List (Lit × DataW H) → Nat
  | [] => 0
  | x :: r => uptoBulkEntry x + uptoBulkEntries r
def uptoBulkEntry {H : Type} : Lit × DataW H → Nat
  | (.string bytes, d) => bytes.length + uptoBulk d + 1
  | (_, d) => uptoBulk d + 1
 end
def uptoSmall : (H : Type) → List (DataW H) → Bool := fun _ ds => decide (uptoBulkAll ds ≤ 1048576)
def OpenSpec.upto (s : _root_.Go.ChangeSpec) : _root_.Go.OpenSpec := { _root_.Go.OpenSpec.ofChange s with cond := some uptoSmall }

/-- 'pyxlaw13.RatchTells', WHERE WHAT IT READS IS OF BULK AT MOST 1048576: true; the input reads as it did. -/
def ratchTellsUptoRow : OpenClaim := { program := "ytdklmafkcbjomaadoor", sum := "82f8beff66d4121112ccf26e9e5b099723fc1fb07648ee93227d3c748d849716", func := "pyx/pyxlaw13.RatchTells", spec := "ratchTells", inPlace := ["math/bits.Add64"], unfollowed := true, recurses := true, named := ["math/bits.deBruijn32tab", "math/bits.deBruijn64tab"], apart := false, laid := [("math/bits.deBruijn32tab", laid_math_bits_deBruijn32tab), ("math/bits.deBruijn64tab", laid_math_bits_deBruijn64tab)], narrowed := true }
def RatchTellsUptoSaid : Prop := ratchTellsUptoRow.holds Tryd.pinned (OpenSpec.upto ratchTellsSpec)

/-- 'pyxlaw13.RatchTakes', WHERE WHAT IT READS IS OF BULK AT MOST 1048576: true; the input reads as it did. -/
def ratchTakesUptoRow : OpenClaim := { program := "ytdklmafkcbjomaadoor", sum := "82f8beff66d4121112ccf26e9e5b099723fc1fb07648ee93227d3c748d849716", func := "pyx/pyxlaw13.RatchTakes", spec := "ratchTakes", inPlace := ["math/bits.Add64"], unfollowed := true, recurses := true, named := ["math/bits.deBruijn32tab", "math/bits.deBruijn64tab"], apart := false, laid := [("math/bits.deBruijn32tab", laid_math_bits_deBruijn32tab), ("math/bits.deBruijn64tab", laid_math_bits_deBruijn64tab)], narrowed := true }
def RatchTakesUptoSaid : Prop := ratchTakesUptoRow.holds Tryd.pinned (OpenSpec.upto ratchTakesSpec)

/-- 'pyxlaw13.RatchOnce', WHERE WHAT IT READS IS OF BULK AT MOST 1048576: true; the input reads as it did. -/
def ratchOnceUptoRow : OpenClaim := { program := "ytdklmafkcbjomaadoor", sum := "82f8beff66d4121112ccf26e9e5b099723fc1fb07648ee93227d3c748d849716", func := "pyx/pyxlaw13.RatchOnce", spec := "ratchOnce", inPlace := ["math/bits.Add64"], unfollowed := true, recurses := true, named := ["math/bits.deBruijn32tab", "math/bits.deBruijn64tab"], apart := false, laid := [("math/bits.deBruijn32tab", laid_math_bits_deBruijn32tab), ("math/bits.deBruijn64tab", laid_math_bits_deBruijn64tab)], narrowed := true }
def RatchOnceUptoSaid : Prop := ratchOnceUptoRow.holds Tryd.pinned (OpenSpec.upto ratchOnceSpec)

/-- 'pyxlaw13.RatchTree', WHERE WHAT IT READS IS OF BULK AT MOST 1048576: true; the input reads as it did. -/
def ratchTreeUptoRow : OpenClaim := { program := "ytdklmafkcbjomaadoor", sum := "82f8beff66d4121112ccf26e9e5b099723fc1fb07648ee93227d3c748d849716", func := "pyx/pyxlaw13.RatchTree", spec := "ratchTree", inPlace := ["math/bits.Add64"], unfollowed := true, recurses := true, named := ["math/bits.deBruijn32tab", "math/bits.deBruijn64tab"], apart := false, laid := [("math/bits.deBruijn32tab", laid_math_bits_deBruijn32tab), ("math/bits.deBruijn64tab", laid_math_bits_deBruijn64tab)], narrowed := true }
def RatchTreeUptoSaid : Prop := ratchTreeUptoRow.holds Tryd.pinned (OpenSpec.upto ratchTreeSpec)

/-- 'pyxlaw13.RatchSpares', WHERE WHAT IT READS IS OF BULK AT MOST 1048576: true; the input reads as it did. -/
def ratchSparesUptoRow : OpenClaim := { program := "ytdklmafkcbjomaadoor", sum := "82f8beff66d4121112ccf26e9e5b099723fc1fb07648ee93227d3c748d849716", func := "pyx/pyxlaw13.RatchSpares", spec := "ratchSpares", inPlace := ["math/bits.Add64"], unfollowed := true, recurses := true, named := ["math/bits.deBruijn32tab", "math/bits.deBruijn64tab"], apart := false, laid := [("math/bits.deBruijn32tab", laid_math_bits_deBruijn32tab), ("math/bits.deBruijn64tab", laid_math_bits_deBruijn64tab)], narrowed := true }
def RatchSparesUptoSaid : Prop := ratchSparesUptoRow.holds Tryd.pinned (OpenSpec.upto ratchSparesSpec)

/-- 'pyxlaw13.RatchSecrets', WHERE WHAT IT READS IS OF BULK AT MOST 1048576: true; the input reads as it did. -/
def ratchSecretsUptoRow : OpenClaim := { program := "ytdklmafkcbjomaadoor", sum := "82f8beff66d4121112ccf26e9e5b099723fc1fb07648ee93227d3c748d849716", func := "pyx/pyxlaw13.RatchSecrets", spec := "ratchSecrets", inPlace := ["math/bits.Add64"], unfollowed := true, recurses := true, named := ["math/bits.deBruijn32tab", "math/bits.deBruijn64tab"], apart := false, laid := [("math/bits.deBruijn32tab", laid_math_bits_deBruijn32tab), ("math/bits.deBruijn64tab", laid_math_bits_deBruijn64tab)], narrowed := true }
def RatchSecretsUptoSaid : Prop := ratchSecretsUptoRow.holds Tryd.pinned (OpenSpec.upto ratchSecretsSpec)

/-- 'pyxlaw13.RatchEnds', WHERE WHAT IT READS IS OF BULK AT MOST 1048576: true; the input reads as it did. -/
def ratchEndsUptoRow : OpenClaim := { program := "ytdklmafkcbjomaadoor", sum := "82f8beff66d4121112ccf26e9e5b099723fc1fb07648ee93227d3c748d849716", func := "pyx/pyxlaw13.RatchEnds", spec := "ratchEnds", inPlace := ["math/bits.Add64"], unfollowed := true, recurses := true, named := ["math/bits.deBruijn32tab", "math/bits.deBruijn64tab"], apart := false, laid := [("math/bits.deBruijn32tab", laid_math_bits_deBruijn32tab), ("math/bits.deBruijn64tab", laid_math_bits_deBruijn64tab)], narrowed := true }
def RatchEndsUptoSaid : Prop := ratchEndsUptoRow.holds Tryd.pinned (OpenSpec.upto ratchEndsSpec)

end Rows
end Go.Proofs.YtdklmafkcbjomaaDoor
