/-
  No cell of these rows narrows 'for every input' (looked for: loops, veiled, ifaces, maps, wideKeys, modest, calm, conditions, laid).
  DERIVED. THE GIVEN ROWS OF THIS SEAT. 12 by the template 'for every input the law returns true; each argument reads behind the call as it read before'; 0 by the template 'total and deterministic' (their statements: YtamaokokbajlgaaTotals.lean).
  GIVEN WITH THE SEED: the statements are not yours to turn. If you find one false, say at which input.
  Laid BY PROGRAM, IN A SANDBOX (cutbox-rows.mjs): the forced cells as the released guide's own fill.sh prints them over the translation 7455f683d362774b… (all of the seat's roots in one cut). By AI agents, Wed Nov 11 2026. No macro, syntax, notation, axiom, sorry.
-/
import Derived.Test.YtamaokokbajlgaaChecked
import GoSem.Claim
import GoSem.ClaimJoined
import GoSem.ClaimMapViews
import Derived.JoinedTies
import Derived.KernelRfl
namespace Go.Proofs.Ytamaokokbajlgaa
/- THE CELL 'sum', in the pinned program and in every row, IS THE sha256 OF THE DUMP (.gsa) THAT YtamaokokbajlgaaProg.lean LOADS. Nothing in Lean hashes anything: it is a label: what it is worth is what the hold of that sum in a sandbox is worth. -/
noncomputable def Try.pinned : Pinned := { name := "ytamaokokbajlgaa", sum := "7455f683d362774ba7cc93494c8e04202d2127f53b66452c987815f3af725ab8", checked := Try.checked }
namespace Rows
def none {H : Type} : Left H := { results := [], args := [] }

/-- 'pyxlaw02.ShaTells': WHATEVER THE INPUT: true; the input reads as it did. -/
def shaTellsSpec : ChangeSpec := { name := "shaTells", fn := fun _ => fun
  | [d] => { results := [.lit (.bool true)], args := [d] }
  | _ => none }
def shaTellsRow : OpenClaim := { program := "ytamaokokbajlgaa", sum := "7455f683d362774ba7cc93494c8e04202d2127f53b66452c987815f3af725ab8", func := "pyx/pyxlaw02.ShaTells", spec := "shaTells", inPlace := ["math/bits.Add64"], unfollowed := true, recurses := true, apart := false }
def ShaTellsSaid : Prop := shaTellsRow.holds Try.pinned (OpenSpec.ofChange shaTellsSpec)

/-- ITS FALSE NEIGHBOUR: 'it returns false'. Refute it at one input. -/
def shaTellsWrong : ChangeSpec := { name := "shaTells", fn := fun _ => fun
  | [d] => { results := [.lit (.bool false)], args := [d] }
  | _ => none }
def ShaTellsWrongFalsely : Prop := shaTellsRow.holds Try.pinned (OpenSpec.ofChange shaTellsWrong)

/-- 'pyxlaw02.ShaKeys': WHATEVER THE INPUT: true; the input reads as it did. -/
def shaKeysSpec : ChangeSpec := { name := "shaKeys", fn := fun _ => fun
  | [d] => { results := [.lit (.bool true)], args := [d] }
  | _ => none }
def shaKeysRow : OpenClaim := { program := "ytamaokokbajlgaa", sum := "7455f683d362774ba7cc93494c8e04202d2127f53b66452c987815f3af725ab8", func := "pyx/pyxlaw02.ShaKeys", spec := "shaKeys", inPlace := ["math/bits.Add64"], unfollowed := true, recurses := true, apart := false }
def ShaKeysSaid : Prop := shaKeysRow.holds Try.pinned (OpenSpec.ofChange shaKeysSpec)

/-- ITS FALSE NEIGHBOUR: 'it returns false'. Refute it at one input. -/
def shaKeysWrong : ChangeSpec := { name := "shaKeys", fn := fun _ => fun
  | [d] => { results := [.lit (.bool false)], args := [d] }
  | _ => none }
def ShaKeysWrongFalsely : Prop := shaKeysRow.holds Try.pinned (OpenSpec.ofChange shaKeysWrong)

/-- 'pyxlaw02.ShaPads': WHATEVER THE INPUT: true; the input reads as it did. -/
def shaPadsSpec : ChangeSpec := { name := "shaPads", fn := fun _ => fun
  | [d] => { results := [.lit (.bool true)], args := [d] }
  | _ => none }
def shaPadsRow : OpenClaim := { program := "ytamaokokbajlgaa", sum := "7455f683d362774ba7cc93494c8e04202d2127f53b66452c987815f3af725ab8", func := "pyx/pyxlaw02.ShaPads", spec := "shaPads", inPlace := ["math/bits.Add64"], unfollowed := true, recurses := true, apart := false }
def ShaPadsSaid : Prop := shaPadsRow.holds Try.pinned (OpenSpec.ofChange shaPadsSpec)

/-- ITS FALSE NEIGHBOUR: 'it returns false'. Refute it at one input. -/
def shaPadsWrong : ChangeSpec := { name := "shaPads", fn := fun _ => fun
  | [d] => { results := [.lit (.bool false)], args := [d] }
  | _ => none }
def ShaPadsWrongFalsely : Prop := shaPadsRow.holds Try.pinned (OpenSpec.ofChange shaPadsWrong)

/-- 'pyxlaw02.ShaEnds': WHATEVER THE INPUT: true; the input reads as it did. -/
def shaEndsSpec : ChangeSpec := { name := "shaEnds", fn := fun _ => fun
  | [d1, d2] => { results := [.lit (.bool true)], args := [d1, d2] }
  | _ => none }
def shaEndsRow : OpenClaim := { program := "ytamaokokbajlgaa", sum := "7455f683d362774ba7cc93494c8e04202d2127f53b66452c987815f3af725ab8", func := "pyx/pyxlaw02.ShaEnds", spec := "shaEnds", inPlace := ["math/bits.Add64"], unfollowed := true, recurses := true, apart := false }
def ShaEndsSaid : Prop := shaEndsRow.holds Try.pinned (OpenSpec.ofChange shaEndsSpec)

/-- ITS FALSE NEIGHBOUR: 'it returns false'. Refute it at one input. -/
def shaEndsWrong : ChangeSpec := { name := "shaEnds", fn := fun _ => fun
  | [d1, d2] => { results := [.lit (.bool false)], args := [d1, d2] }
  | _ => none }
def ShaEndsWrongFalsely : Prop := shaEndsRow.holds Try.pinned (OpenSpec.ofChange shaEndsWrong)

/-- 'pyxlaw02.ShaParts': WHATEVER THE INPUT: true; the input reads as it did. -/
def shaPartsSpec : ChangeSpec := { name := "shaParts", fn := fun _ => fun
  | [d] => { results := [.lit (.bool true)], args := [d] }
  | _ => none }
def shaPartsRow : OpenClaim := { program := "ytamaokokbajlgaa", sum := "7455f683d362774ba7cc93494c8e04202d2127f53b66452c987815f3af725ab8", func := "pyx/pyxlaw02.ShaParts", spec := "shaParts", inPlace := ["math/bits.Add64"], unfollowed := true, recurses := true, apart := false }
def ShaPartsSaid : Prop := shaPartsRow.holds Try.pinned (OpenSpec.ofChange shaPartsSpec)

/-- ITS FALSE NEIGHBOUR: 'it returns false'. Refute it at one input. -/
def shaPartsWrong : ChangeSpec := { name := "shaParts", fn := fun _ => fun
  | [d] => { results := [.lit (.bool false)], args := [d] }
  | _ => none }
def ShaPartsWrongFalsely : Prop := shaPartsRow.holds Try.pinned (OpenSpec.ofChange shaPartsWrong)

/-- 'pyxlaw02.ShaBlocks': WHATEVER THE INPUT: true; the input reads as it did. -/
def shaBlocksSpec : ChangeSpec := { name := "shaBlocks", fn := fun _ => fun
  | [d] => { results := [.lit (.bool true)], args := [d] }
  | _ => none }
def shaBlocksRow : OpenClaim := { program := "ytamaokokbajlgaa", sum := "7455f683d362774ba7cc93494c8e04202d2127f53b66452c987815f3af725ab8", func := "pyx/pyxlaw02.ShaBlocks", spec := "shaBlocks", inPlace := ["math/bits.Add64"], unfollowed := true, recurses := true, apart := false }
def ShaBlocksSaid : Prop := shaBlocksRow.holds Try.pinned (OpenSpec.ofChange shaBlocksSpec)

/-- ITS FALSE NEIGHBOUR: 'it returns false'. Refute it at one input. -/
def shaBlocksWrong : ChangeSpec := { name := "shaBlocks", fn := fun _ => fun
  | [d] => { results := [.lit (.bool false)], args := [d] }
  | _ => none }
def ShaBlocksWrongFalsely : Prop := shaBlocksRow.holds Try.pinned (OpenSpec.ofChange shaBlocksWrong)

/-- 'pyxlaw02.ShaRounds': WHATEVER THE INPUT: true; the input reads as it did. -/
def shaRoundsSpec : ChangeSpec := { name := "shaRounds", fn := fun _ => fun
  | [d1, d2, d3] => { results := [.lit (.bool true)], args := [d1, d2, d3] }
  | _ => none }
def shaRoundsRow : OpenClaim := { program := "ytamaokokbajlgaa", sum := "7455f683d362774ba7cc93494c8e04202d2127f53b66452c987815f3af725ab8", func := "pyx/pyxlaw02.ShaRounds", spec := "shaRounds", inPlace := ["math/bits.Add64"], unfollowed := true, recurses := true, apart := false }
def ShaRoundsSaid : Prop := shaRoundsRow.holds Try.pinned (OpenSpec.ofChange shaRoundsSpec)

/-- ITS FALSE NEIGHBOUR: 'it returns false'. Refute it at one input. -/
def shaRoundsWrong : ChangeSpec := { name := "shaRounds", fn := fun _ => fun
  | [d1, d2, d3] => { results := [.lit (.bool false)], args := [d1, d2, d3] }
  | _ => none }
def ShaRoundsWrongFalsely : Prop := shaRoundsRow.holds Try.pinned (OpenSpec.ofChange shaRoundsWrong)

/-- 'pyxlaw03.MacKeys': WHATEVER THE INPUT: true; the input reads as it did. -/
def macKeysSpec : ChangeSpec := { name := "macKeys", fn := fun _ => fun
  | [d1, d2] => { results := [.lit (.bool true)], args := [d1, d2] }
  | _ => none }
def macKeysRow : OpenClaim := { program := "ytamaokokbajlgaa", sum := "7455f683d362774ba7cc93494c8e04202d2127f53b66452c987815f3af725ab8", func := "pyx/pyxlaw03.MacKeys", spec := "macKeys", inPlace := ["math/bits.Add64"], unfollowed := true, recurses := true, apart := false }
def MacKeysSaid : Prop := macKeysRow.holds Try.pinned (OpenSpec.ofChange macKeysSpec)

/-- ITS FALSE NEIGHBOUR: 'it returns false'. Refute it at one input. -/
def macKeysWrong : ChangeSpec := { name := "macKeys", fn := fun _ => fun
  | [d1, d2] => { results := [.lit (.bool false)], args := [d1, d2] }
  | _ => none }
def MacKeysWrongFalsely : Prop := macKeysRow.holds Try.pinned (OpenSpec.ofChange macKeysWrong)

/-- 'pyxlaw03.MacSame': WHATEVER THE INPUT: true; the input reads as it did. -/
def macSameSpec : ChangeSpec := { name := "macSame", fn := fun _ => fun
  | [d1, d2, d3] => { results := [.lit (.bool true)], args := [d1, d2, d3] }
  | _ => none }
def macSameRow : OpenClaim := { program := "ytamaokokbajlgaa", sum := "7455f683d362774ba7cc93494c8e04202d2127f53b66452c987815f3af725ab8", func := "pyx/pyxlaw03.MacSame", spec := "macSame", inPlace := ["math/bits.Add64"], unfollowed := true, recurses := true, apart := false }
def MacSameSaid : Prop := macSameRow.holds Try.pinned (OpenSpec.ofChange macSameSpec)

/-- ITS FALSE NEIGHBOUR: 'it returns false'. Refute it at one input. -/
def macSameWrong : ChangeSpec := { name := "macSame", fn := fun _ => fun
  | [d1, d2, d3] => { results := [.lit (.bool false)], args := [d1, d2, d3] }
  | _ => none }
def MacSameWrongFalsely : Prop := macSameRow.holds Try.pinned (OpenSpec.ofChange macSameWrong)

/-- 'pyxlaw03.MacInner': WHATEVER THE INPUT: true; the input reads as it did. -/
def macInnerSpec : ChangeSpec := { name := "macInner", fn := fun _ => fun
  | [d1, d2] => { results := [.lit (.bool true)], args := [d1, d2] }
  | _ => none }
def macInnerRow : OpenClaim := { program := "ytamaokokbajlgaa", sum := "7455f683d362774ba7cc93494c8e04202d2127f53b66452c987815f3af725ab8", func := "pyx/pyxlaw03.MacInner", spec := "macInner", inPlace := ["math/bits.Add64"], unfollowed := true, recurses := true, apart := false }
def MacInnerSaid : Prop := macInnerRow.holds Try.pinned (OpenSpec.ofChange macInnerSpec)

/-- ITS FALSE NEIGHBOUR: 'it returns false'. Refute it at one input. -/
def macInnerWrong : ChangeSpec := { name := "macInner", fn := fun _ => fun
  | [d1, d2] => { results := [.lit (.bool false)], args := [d1, d2] }
  | _ => none }
def MacInnerWrongFalsely : Prop := macInnerRow.holds Try.pinned (OpenSpec.ofChange macInnerWrong)

/-- 'pyxlaw03.MacTells': WHATEVER THE INPUT: true; the input reads as it did. -/
def macTellsSpec : ChangeSpec := { name := "macTells", fn := fun _ => fun
  | [d1, d2, d3] => { results := [.lit (.bool true)], args := [d1, d2, d3] }
  | _ => none }
def macTellsRow : OpenClaim := { program := "ytamaokokbajlgaa", sum := "7455f683d362774ba7cc93494c8e04202d2127f53b66452c987815f3af725ab8", func := "pyx/pyxlaw03.MacTells", spec := "macTells", inPlace := ["math/bits.Add64"], unfollowed := true, recurses := true, apart := false }
def MacTellsSaid : Prop := macTellsRow.holds Try.pinned (OpenSpec.ofChange macTellsSpec)

/-- ITS FALSE NEIGHBOUR: 'it returns false'. Refute it at one input. -/
def macTellsWrong : ChangeSpec := { name := "macTells", fn := fun _ => fun
  | [d1, d2, d3] => { results := [.lit (.bool false)], args := [d1, d2, d3] }
  | _ => none }
def MacTellsWrongFalsely : Prop := macTellsRow.holds Try.pinned (OpenSpec.ofChange macTellsWrong)

/-- 'pyxlaw03.MacRows': WHATEVER THE INPUT: true; the input reads as it did. -/
def macRowsSpec : ChangeSpec := { name := "macRows", fn := fun _ => fun
  | [d1, d2, d3] => { results := [.lit (.bool true)], args := [d1, d2, d3] }
  | _ => none }
def macRowsRow : OpenClaim := { program := "ytamaokokbajlgaa", sum := "7455f683d362774ba7cc93494c8e04202d2127f53b66452c987815f3af725ab8", func := "pyx/pyxlaw03.MacRows", spec := "macRows", inPlace := ["math/bits.Add64"], unfollowed := true, recurses := true, apart := false }
def MacRowsSaid : Prop := macRowsRow.holds Try.pinned (OpenSpec.ofChange macRowsSpec)

/-- ITS FALSE NEIGHBOUR: 'it returns false'. Refute it at one input. -/
def macRowsWrong : ChangeSpec := { name := "macRows", fn := fun _ => fun
  | [d1, d2, d3] => { results := [.lit (.bool false)], args := [d1, d2, d3] }
  | _ => none }
def MacRowsWrongFalsely : Prop := macRowsRow.holds Try.pinned (OpenSpec.ofChange macRowsWrong)

/- THE SECOND FORM. 'bulk': how many values and letters a reading holds, each counted each time it is reached (what is shared counts as often as it is met; a slice's spare places count too). A statement '..UptoSaid' is the law's where the arguments, and the package variables that the reading takes, are together of bulk at most 1048576: NARROWER than '..Said'. Prove '..Said' where nothing that the law and all that it calls make is longer than what came in: it says more and counts as full. Else prove '..UptoSaid'. A law counts once. -/
mutual
def uptoBulk {H : Type} : DataW H → Nat
  | .lit (.string bytes) => bytes.length + 1
  | .lit _ => 1
  | .nil => 1
  | .ptr d => uptoBulk d + 1
  | .slice elems spare => uptoBulkAll elems + uptoBulkAll spare + 1
  | .agg parts => uptoBulkAll parts + 1
  | .iface _ d => uptoBulk d + 1
  | .map entries => uptoBulkEntries entries + 1
  | .held _ => 1
def uptoBulkAll {H : Type} : List (DataW H) → Nat
  | [] => 0
  | d :: r => uptoBulk d + uptoBulkAll r
def uptoBulkEntries {H : Type} : List (Lit × DataW H) → Nat
  | [] => 0
  | x :: r => uptoBulkEntry x + uptoBulkEntries r
def uptoBulkEntry {H : Type} : Lit × DataW H → Nat
  | (.string bytes, d) => bytes.length + uptoBulk d + 1
  | (_, d) => uptoBulk d + 1
 end
def uptoSmall : (H : Type) → List (DataW H) → Bool := fun _ ds => decide (uptoBulkAll ds ≤ 1048576)
def OpenSpec.upto (s : _root_.Go.ChangeSpec) : _root_.Go.OpenSpec := { _root_.Go.OpenSpec.ofChange s with cond := some uptoSmall }

/-- 'pyxlaw02.ShaTells', WHERE WHAT IT READS IS OF BULK AT MOST 1048576: true; the input reads as it did. -/
def shaTellsUptoRow : OpenClaim := { program := "ytamaokokbajlgaa", sum := "7455f683d362774ba7cc93494c8e04202d2127f53b66452c987815f3af725ab8", func := "pyx/pyxlaw02.ShaTells", spec := "shaTells", inPlace := ["math/bits.Add64"], unfollowed := true, recurses := true, apart := false, narrowed := true }
def ShaTellsUptoSaid : Prop := shaTellsUptoRow.holds Try.pinned (OpenSpec.upto shaTellsSpec)

/-- 'pyxlaw02.ShaKeys', WHERE WHAT IT READS IS OF BULK AT MOST 1048576: true; the input reads as it did. -/
def shaKeysUptoRow : OpenClaim := { program := "ytamaokokbajlgaa", sum := "7455f683d362774ba7cc93494c8e04202d2127f53b66452c987815f3af725ab8", func := "pyx/pyxlaw02.ShaKeys", spec := "shaKeys", inPlace := ["math/bits.Add64"], unfollowed := true, recurses := true, apart := false, narrowed := true }
def ShaKeysUptoSaid : Prop := shaKeysUptoRow.holds Try.pinned (OpenSpec.upto shaKeysSpec)

/-- 'pyxlaw02.ShaPads', WHERE WHAT IT READS IS OF BULK AT MOST 1048576: true; the input reads as it did. -/
def shaPadsUptoRow : OpenClaim := { program := "ytamaokokbajlgaa", sum := "7455f683d362774ba7cc93494c8e04202d2127f53b66452c987815f3af725ab8", func := "pyx/pyxlaw02.ShaPads", spec := "shaPads", inPlace := ["math/bits.Add64"], unfollowed := true, recurses := true, apart := false, narrowed := true }
def ShaPadsUptoSaid : Prop := shaPadsUptoRow.holds Try.pinned (OpenSpec.upto shaPadsSpec)

/-- 'pyxlaw02.ShaEnds', WHERE WHAT IT READS IS OF BULK AT MOST 1048576: true; the input reads as it did. -/
def shaEndsUptoRow : OpenClaim := { program := "ytamaokokbajlgaa", sum := "7455f683d362774ba7cc93494c8e04202d2127f53b66452c987815f3af725ab8", func := "pyx/pyxlaw02.ShaEnds", spec := "shaEnds", inPlace := ["math/bits.Add64"], unfollowed := true, recurses := true, apart := false, narrowed := true }
def ShaEndsUptoSaid : Prop := shaEndsUptoRow.holds Try.pinned (OpenSpec.upto shaEndsSpec)

/-- 'pyxlaw02.ShaParts', WHERE WHAT IT READS IS OF BULK AT MOST 1048576: true; the input reads as it did. -/
def shaPartsUptoRow : OpenClaim := { program := "ytamaokokbajlgaa", sum := "7455f683d362774ba7cc93494c8e04202d2127f53b66452c987815f3af725ab8", func := "pyx/pyxlaw02.ShaParts", spec := "shaParts", inPlace := ["math/bits.Add64"], unfollowed := true, recurses := true, apart := false, narrowed := true }
def ShaPartsUptoSaid : Prop := shaPartsUptoRow.holds Try.pinned (OpenSpec.upto shaPartsSpec)

/-- 'pyxlaw02.ShaBlocks', WHERE WHAT IT READS IS OF BULK AT MOST 1048576: true; the input reads as it did. -/
def shaBlocksUptoRow : OpenClaim := { program := "ytamaokokbajlgaa", sum := "7455f683d362774ba7cc93494c8e04202d2127f53b66452c987815f3af725ab8", func := "pyx/pyxlaw02.ShaBlocks", spec := "shaBlocks", inPlace := ["math/bits.Add64"], unfollowed := true, recurses := true, apart := false, narrowed := true }
def ShaBlocksUptoSaid : Prop := shaBlocksUptoRow.holds Try.pinned (OpenSpec.upto shaBlocksSpec)

/-- 'pyxlaw02.ShaRounds', WHERE WHAT IT READS IS OF BULK AT MOST 1048576: true; the input reads as it did. -/
def shaRoundsUptoRow : OpenClaim := { program := "ytamaokokbajlgaa", sum := "7455f683d362774ba7cc93494c8e04202d2127f53b66452c987815f3af725ab8", func := "pyx/pyxlaw02.ShaRounds", spec := "shaRounds", inPlace := ["math/bits.Add64"], unfollowed := true, recurses := true, apart := false, narrowed := true }
def ShaRoundsUptoSaid : Prop := shaRoundsUptoRow.holds Try.pinned (OpenSpec.upto shaRoundsSpec)

/-- 'pyxlaw03.MacKeys', WHERE WHAT IT READS IS OF BULK AT MOST 1048576: true; the input reads as it did. -/
def macKeysUptoRow : OpenClaim := { program := "ytamaokokbajlgaa", sum := "7455f683d362774ba7cc93494c8e04202d2127f53b66452c987815f3af725ab8", func := "pyx/pyxlaw03.MacKeys", spec := "macKeys", inPlace := ["math/bits.Add64"], unfollowed := true, recurses := true, apart := false, narrowed := true }
def MacKeysUptoSaid : Prop := macKeysUptoRow.holds Try.pinned (OpenSpec.upto macKeysSpec)

/-- 'pyxlaw03.MacSame', WHERE WHAT IT READS IS OF BULK AT MOST 1048576: true; the input reads as it did. -/
def macSameUptoRow : OpenClaim := { program := "ytamaokokbajlgaa", sum := "7455f683d362774ba7cc93494c8e04202d2127f53b66452c987815f3af725ab8", func := "pyx/pyxlaw03.MacSame", spec := "macSame", inPlace := ["math/bits.Add64"], unfollowed := true, recurses := true, apart := false, narrowed := true }
def MacSameUptoSaid : Prop := macSameUptoRow.holds Try.pinned (OpenSpec.upto macSameSpec)

/-- 'pyxlaw03.MacInner', WHERE WHAT IT READS IS OF BULK AT MOST 1048576: true; the input reads as it did. -/
def macInnerUptoRow : OpenClaim := { program := "ytamaokokbajlgaa", sum := "7455f683d362774ba7cc93494c8e04202d2127f53b66452c987815f3af725ab8", func := "pyx/pyxlaw03.MacInner", spec := "macInner", inPlace := ["math/bits.Add64"], unfollowed := true, recurses := true, apart := false, narrowed := true }
def MacInnerUptoSaid : Prop := macInnerUptoRow.holds Try.pinned (OpenSpec.upto macInnerSpec)

/-- 'pyxlaw03.MacTells', WHERE WHAT IT READS IS OF BULK AT MOST 1048576: true; the input reads as it did. -/
def macTellsUptoRow : OpenClaim := { program := "ytamaokokbajlgaa", sum := "7455f683d362774ba7cc93494c8e04202d2127f53b66452c987815f3af725ab8", func := "pyx/pyxlaw03.MacTells", spec := "macTells", inPlace := ["math/bits.Add64"], unfollowed := true, recurses := true, apart := false, narrowed := true }
def MacTellsUptoSaid : Prop := macTellsUptoRow.holds Try.pinned (OpenSpec.upto macTellsSpec)

/-- 'pyxlaw03.MacRows', WHERE WHAT IT READS IS OF BULK AT MOST 1048576: true; the input reads as it did. -/
def macRowsUptoRow : OpenClaim := { program := "ytamaokokbajlgaa", sum := "7455f683d362774ba7cc93494c8e04202d2127f53b66452c987815f3af725ab8", func := "pyx/pyxlaw03.MacRows", spec := "macRows", inPlace := ["math/bits.Add64"], unfollowed := true, recurses := true, apart := false, narrowed := true }
def MacRowsUptoSaid : Prop := macRowsUptoRow.holds Try.pinned (OpenSpec.upto macRowsSpec)

end Rows
end Go.Proofs.Ytamaokokbajlgaa
