/-
  DERIVED. GIVEN WITH THE SEED: THE CARDS: each row of YtdklmafkcbjomaaDoorRows.lean that lists a variable, with what it lists TIED to the program's text (the seventh form; the later family's looks); each row that meets fmt, with fmt's text TOLD by the authors' own Lean function (tested against real Go, not proved from fmt's source: count such statements apart). THE CARD IS WHAT COUNTS. Prove the row's statement (the work); the ties are given (YtdklmafkcbjomaaDoorTie.lean); close each card by the builder's one call (the guide's Derived/Test/ToyasCard.lean, 'card_holds'). Laid BY PROGRAM, IN A SANDBOX (cutbox-door.mjs). By AI agents, Wed Nov 11 2026. No macro, syntax, notation, axiom, sorry.
-/
import Derived.Test.YtdklmafkcbjomaaDoorRows
import GoSem.ClaimSeven
namespace Go.Proofs.YtdklmafkcbjomaaDoor
namespace Rows

/-- THE TIED CARD OF 'pyxlaw13.RatchTells'. -/
def ratchTellsCard : Claim7 := { stood := { row := ratchTellsRow, standIns := [], harness := (true, "b08b13eea56cd8273eb5f0b38c055184c9e01f502b4512c50a8be8bff3fc2273"), looks := false }, kinds := [], alts := [], laidByText := true, laidKinds := [.data, .data], laidTests := true, laidLooks := .later }
def RatchTellsCardSaid : Prop := Claim7.holds Tryd.pinned (.plain (OpenSpec.ofChange ratchTellsSpec)) ratchTellsCard

/-- THE TIED CARD OF 'pyxlaw13.RatchTakes'. -/
def ratchTakesCard : Claim7 := { stood := { row := ratchTakesRow, standIns := [], harness := (true, "b08b13eea56cd8273eb5f0b38c055184c9e01f502b4512c50a8be8bff3fc2273"), looks := false }, kinds := [], alts := [], laidByText := true, laidKinds := [.data, .data], laidTests := true, laidLooks := .later }
def RatchTakesCardSaid : Prop := Claim7.holds Tryd.pinned (.plain (OpenSpec.ofChange ratchTakesSpec)) ratchTakesCard

/-- THE TIED CARD OF 'pyxlaw13.RatchOnce'. -/
def ratchOnceCard : Claim7 := { stood := { row := ratchOnceRow, standIns := [], harness := (true, "b08b13eea56cd8273eb5f0b38c055184c9e01f502b4512c50a8be8bff3fc2273"), looks := false }, kinds := [], alts := [], laidByText := true, laidKinds := [.data, .data], laidTests := true, laidLooks := .later }
def RatchOnceCardSaid : Prop := Claim7.holds Tryd.pinned (.plain (OpenSpec.ofChange ratchOnceSpec)) ratchOnceCard

/-- THE TIED CARD OF 'pyxlaw13.RatchTree'. -/
def ratchTreeCard : Claim7 := { stood := { row := ratchTreeRow, standIns := [], harness := (true, "b08b13eea56cd8273eb5f0b38c055184c9e01f502b4512c50a8be8bff3fc2273"), looks := false }, kinds := [], alts := [], laidByText := true, laidKinds := [.data, .data], laidTests := true, laidLooks := .later }
def RatchTreeCardSaid : Prop := Claim7.holds Tryd.pinned (.plain (OpenSpec.ofChange ratchTreeSpec)) ratchTreeCard

/-- THE TIED CARD OF 'pyxlaw13.RatchSpares'. -/
def ratchSparesCard : Claim7 := { stood := { row := ratchSparesRow, standIns := [], harness := (true, "b08b13eea56cd8273eb5f0b38c055184c9e01f502b4512c50a8be8bff3fc2273"), looks := false }, kinds := [], alts := [], laidByText := true, laidKinds := [.data, .data], laidTests := true, laidLooks := .later }
def RatchSparesCardSaid : Prop := Claim7.holds Tryd.pinned (.plain (OpenSpec.ofChange ratchSparesSpec)) ratchSparesCard

/-- THE TIED CARD OF 'pyxlaw13.RatchSecrets'. -/
def ratchSecretsCard : Claim7 := { stood := { row := ratchSecretsRow, standIns := [], harness := (true, "b08b13eea56cd8273eb5f0b38c055184c9e01f502b4512c50a8be8bff3fc2273"), looks := false }, kinds := [], alts := [], laidByText := true, laidKinds := [.data, .data], laidTests := true, laidLooks := .later }
def RatchSecretsCardSaid : Prop := Claim7.holds Tryd.pinned (.plain (OpenSpec.ofChange ratchSecretsSpec)) ratchSecretsCard

/-- THE TIED CARD OF 'pyxlaw13.RatchEnds'. -/
def ratchEndsCard : Claim7 := { stood := { row := ratchEndsRow, standIns := [], harness := (true, "b08b13eea56cd8273eb5f0b38c055184c9e01f502b4512c50a8be8bff3fc2273"), looks := false }, kinds := [], alts := [], laidByText := true, laidKinds := [.data, .data], laidTests := true, laidLooks := .later }
def RatchEndsCardSaid : Prop := Claim7.holds Tryd.pinned (.plain (OpenSpec.ofChange ratchEndsSpec)) ratchEndsCard

/-- THE SECOND FORM's CARD OF 'pyxlaw13.RatchTells'. -/
def ratchTellsUptoCard : Claim7 := { stood := { row := ratchTellsUptoRow, standIns := [], harness := (true, "b08b13eea56cd8273eb5f0b38c055184c9e01f502b4512c50a8be8bff3fc2273"), looks := false }, kinds := [], alts := [], laidByText := true, laidKinds := [.data, .data], laidTests := true, laidLooks := .later }
def RatchTellsUptoCardSaid : Prop := Claim7.holds Tryd.pinned (.plain (OpenSpec.upto ratchTellsSpec)) ratchTellsUptoCard

/-- THE SECOND FORM's CARD OF 'pyxlaw13.RatchTakes'. -/
def ratchTakesUptoCard : Claim7 := { stood := { row := ratchTakesUptoRow, standIns := [], harness := (true, "b08b13eea56cd8273eb5f0b38c055184c9e01f502b4512c50a8be8bff3fc2273"), looks := false }, kinds := [], alts := [], laidByText := true, laidKinds := [.data, .data], laidTests := true, laidLooks := .later }
def RatchTakesUptoCardSaid : Prop := Claim7.holds Tryd.pinned (.plain (OpenSpec.upto ratchTakesSpec)) ratchTakesUptoCard

/-- THE SECOND FORM's CARD OF 'pyxlaw13.RatchOnce'. -/
def ratchOnceUptoCard : Claim7 := { stood := { row := ratchOnceUptoRow, standIns := [], harness := (true, "b08b13eea56cd8273eb5f0b38c055184c9e01f502b4512c50a8be8bff3fc2273"), looks := false }, kinds := [], alts := [], laidByText := true, laidKinds := [.data, .data], laidTests := true, laidLooks := .later }
def RatchOnceUptoCardSaid : Prop := Claim7.holds Tryd.pinned (.plain (OpenSpec.upto ratchOnceSpec)) ratchOnceUptoCard

/-- THE SECOND FORM's CARD OF 'pyxlaw13.RatchTree'. -/
def ratchTreeUptoCard : Claim7 := { stood := { row := ratchTreeUptoRow, standIns := [], harness := (true, "b08b13eea56cd8273eb5f0b38c055184c9e01f502b4512c50a8be8bff3fc2273"), looks := false }, kinds := [], alts := [], laidByText := true, laidKinds := [.data, .data], laidTests := true, laidLooks := .later }
def RatchTreeUptoCardSaid : Prop := Claim7.holds Tryd.pinned (.plain (OpenSpec.upto ratchTreeSpec)) ratchTreeUptoCard

/-- THE SECOND FORM's CARD OF 'pyxlaw13.RatchSpares'. -/
def ratchSparesUptoCard : Claim7 := { stood := { row := ratchSparesUptoRow, standIns := [], harness := (true, "b08b13eea56cd8273eb5f0b38c055184c9e01f502b4512c50a8be8bff3fc2273"), looks := false }, kinds := [], alts := [], laidByText := true, laidKinds := [.data, .data], laidTests := true, laidLooks := .later }
def RatchSparesUptoCardSaid : Prop := Claim7.holds Tryd.pinned (.plain (OpenSpec.upto ratchSparesSpec)) ratchSparesUptoCard

/-- THE SECOND FORM's CARD OF 'pyxlaw13.RatchSecrets'. -/
def ratchSecretsUptoCard : Claim7 := { stood := { row := ratchSecretsUptoRow, standIns := [], harness := (true, "b08b13eea56cd8273eb5f0b38c055184c9e01f502b4512c50a8be8bff3fc2273"), looks := false }, kinds := [], alts := [], laidByText := true, laidKinds := [.data, .data], laidTests := true, laidLooks := .later }
def RatchSecretsUptoCardSaid : Prop := Claim7.holds Tryd.pinned (.plain (OpenSpec.upto ratchSecretsSpec)) ratchSecretsUptoCard

/-- THE SECOND FORM's CARD OF 'pyxlaw13.RatchEnds'. -/
def ratchEndsUptoCard : Claim7 := { stood := { row := ratchEndsUptoRow, standIns := [], harness := (true, "b08b13eea56cd8273eb5f0b38c055184c9e01f502b4512c50a8be8bff3fc2273"), looks := false }, kinds := [], alts := [], laidByText := true, laidKinds := [.data, .data], laidTests := true, laidLooks := .later }
def RatchEndsUptoCardSaid : Prop := Claim7.holds Tryd.pinned (.plain (OpenSpec.upto ratchEndsSpec)) ratchEndsUptoCard
end Rows
end Go.Proofs.YtdklmafkcbjomaaDoor
