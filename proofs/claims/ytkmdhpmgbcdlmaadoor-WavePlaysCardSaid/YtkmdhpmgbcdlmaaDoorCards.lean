/-
  DERIVED. GIVEN WITH THE SEED: THE CARDS: each row of YtkmdhpmgbcdlmaaDoorRows.lean that lists a variable, with what it lists TIED to the program's text (the seventh form; the later family's looks); each row that meets fmt, with fmt's text TOLD by the authors' own Lean function (tested against real Go, not proved from fmt's source: count such statements apart). THE CARD IS WHAT COUNTS. Prove the row's statement (the work); the ties are given (YtkmdhpmgbcdlmaaDoorTie.lean); close each card by the builder's one call (the guide's Derived/Test/ToyasCard.lean, 'card_holds'). Laid BY PROGRAM, IN A SANDBOX (cutbox-door.mjs). By AI agents, Wed Nov 11 2026. No macro, syntax, notation, axiom, sorry.
-/
import Derived.Test.YtkmdhpmgbcdlmaaDoorRows
import GoSem.ClaimSeven
namespace Go.Proofs.YtkmdhpmgbcdlmaaDoor
namespace Rows

/-- THE TIED CARD OF 'kotatsulaw13.WaveTables'. -/
def waveTablesCard : Claim7 := { stood := { row := waveTablesRow, standIns := [], harness := (true, "05397de2ebc2b90bd402ce761f104e9edc99c8cf5a1345688494c993fb2421d5"), looks := false }, kinds := [], alts := [], laidByText := true, laidKinds := [.data], laidTests := true, laidLooks := .later }
def WaveTablesCardSaid : Prop := Claim7.holds Tryd.pinned (.plain (OpenSpec.ofChange waveTablesSpec)) waveTablesCard

/-- THE TIED CARD OF 'kotatsulaw13.WavePitches'. -/
def wavePitchesCard : Claim7 := { stood := { row := wavePitchesRow, standIns := [], harness := (true, "05397de2ebc2b90bd402ce761f104e9edc99c8cf5a1345688494c993fb2421d5"), looks := false }, kinds := [], alts := [], laidByText := true, laidKinds := [.data], laidTests := true, laidLooks := .later }
def WavePitchesCardSaid : Prop := Claim7.holds Tryd.pinned (.plain (OpenSpec.ofChange wavePitchesSpec)) wavePitchesCard

/-- THE TIED CARD OF 'kotatsulaw13.WaveRounds'. -/
def waveRoundsCard : Claim7 := { stood := { row := waveRoundsRow, standIns := [], harness := (true, "05397de2ebc2b90bd402ce761f104e9edc99c8cf5a1345688494c993fb2421d5"), looks := false }, kinds := [], alts := [], laidByText := true, laidKinds := [.data, .data], laidTests := true, laidLooks := .later }
def WaveRoundsCardSaid : Prop := Claim7.holds Tryd.pinned (.plain (OpenSpec.ofChange waveRoundsSpec)) waveRoundsCard

/-- THE TIED CARD OF 'kotatsulaw13.WaveRanges'. -/
def waveRangesCard : Claim7 := { stood := { row := waveRangesRow, standIns := [], harness := (true, "05397de2ebc2b90bd402ce761f104e9edc99c8cf5a1345688494c993fb2421d5"), looks := false }, kinds := [], alts := [], laidByText := true, laidKinds := [.data, .data], laidTests := true, laidLooks := .later }
def WaveRangesCardSaid : Prop := Claim7.holds Tryd.pinned (.plain (OpenSpec.ofChange waveRangesSpec)) waveRangesCard

/-- THE TIED CARD OF 'kotatsulaw13.WavePlays'. -/
def wavePlaysCard : Claim7 := { stood := { row := wavePlaysRow, standIns := [], harness := (true, "05397de2ebc2b90bd402ce761f104e9edc99c8cf5a1345688494c993fb2421d5"), looks := false }, kinds := [], alts := [], laidByText := true, laidKinds := [.data, .data], laidTests := true, laidLooks := .later }
def WavePlaysCardSaid : Prop := Claim7.holds Tryd.pinned (.plain (OpenSpec.ofChange wavePlaysSpec)) wavePlaysCard

/-- THE TIED CARD OF 'kotatsulaw13.WaveSlopes'. -/
def waveSlopesCard : Claim7 := { stood := { row := waveSlopesRow, standIns := [], harness := (true, "05397de2ebc2b90bd402ce761f104e9edc99c8cf5a1345688494c993fb2421d5"), looks := false }, kinds := [], alts := [], laidByText := true, laidKinds := [.data, .data], laidTests := true, laidLooks := .later }
def WaveSlopesCardSaid : Prop := Claim7.holds Tryd.pinned (.plain (OpenSpec.ofChange waveSlopesSpec)) waveSlopesCard

/-- THE SECOND FORM's CARD OF 'kotatsulaw13.WaveTables'. -/
def waveTablesUptoCard : Claim7 := { stood := { row := waveTablesUptoRow, standIns := [], harness := (true, "05397de2ebc2b90bd402ce761f104e9edc99c8cf5a1345688494c993fb2421d5"), looks := false }, kinds := [], alts := [], laidByText := true, laidKinds := [.data], laidTests := true, laidLooks := .later }
def WaveTablesUptoCardSaid : Prop := Claim7.holds Tryd.pinned (.plain (OpenSpec.upto waveTablesSpec)) waveTablesUptoCard

/-- THE SECOND FORM's CARD OF 'kotatsulaw13.WavePitches'. -/
def wavePitchesUptoCard : Claim7 := { stood := { row := wavePitchesUptoRow, standIns := [], harness := (true, "05397de2ebc2b90bd402ce761f104e9edc99c8cf5a1345688494c993fb2421d5"), looks := false }, kinds := [], alts := [], laidByText := true, laidKinds := [.data], laidTests := true, laidLooks := .later }
def WavePitchesUptoCardSaid : Prop := Claim7.holds Tryd.pinned (.plain (OpenSpec.upto wavePitchesSpec)) wavePitchesUptoCard

/-- THE SECOND FORM's CARD OF 'kotatsulaw13.WaveRounds'. -/
def waveRoundsUptoCard : Claim7 := { stood := { row := waveRoundsUptoRow, standIns := [], harness := (true, "05397de2ebc2b90bd402ce761f104e9edc99c8cf5a1345688494c993fb2421d5"), looks := false }, kinds := [], alts := [], laidByText := true, laidKinds := [.data, .data], laidTests := true, laidLooks := .later }
def WaveRoundsUptoCardSaid : Prop := Claim7.holds Tryd.pinned (.plain (OpenSpec.upto waveRoundsSpec)) waveRoundsUptoCard

/-- THE SECOND FORM's CARD OF 'kotatsulaw13.WaveRanges'. -/
def waveRangesUptoCard : Claim7 := { stood := { row := waveRangesUptoRow, standIns := [], harness := (true, "05397de2ebc2b90bd402ce761f104e9edc99c8cf5a1345688494c993fb2421d5"), looks := false }, kinds := [], alts := [], laidByText := true, laidKinds := [.data, .data], laidTests := true, laidLooks := .later }
def WaveRangesUptoCardSaid : Prop := Claim7.holds Tryd.pinned (.plain (OpenSpec.upto waveRangesSpec)) waveRangesUptoCard

/-- THE SECOND FORM's CARD OF 'kotatsulaw13.WavePlays'. -/
def wavePlaysUptoCard : Claim7 := { stood := { row := wavePlaysUptoRow, standIns := [], harness := (true, "05397de2ebc2b90bd402ce761f104e9edc99c8cf5a1345688494c993fb2421d5"), looks := false }, kinds := [], alts := [], laidByText := true, laidKinds := [.data, .data], laidTests := true, laidLooks := .later }
def WavePlaysUptoCardSaid : Prop := Claim7.holds Tryd.pinned (.plain (OpenSpec.upto wavePlaysSpec)) wavePlaysUptoCard

/-- THE SECOND FORM's CARD OF 'kotatsulaw13.WaveSlopes'. -/
def waveSlopesUptoCard : Claim7 := { stood := { row := waveSlopesUptoRow, standIns := [], harness := (true, "05397de2ebc2b90bd402ce761f104e9edc99c8cf5a1345688494c993fb2421d5"), looks := false }, kinds := [], alts := [], laidByText := true, laidKinds := [.data, .data], laidTests := true, laidLooks := .later }
def WaveSlopesUptoCardSaid : Prop := Claim7.holds Tryd.pinned (.plain (OpenSpec.upto waveSlopesSpec)) waveSlopesUptoCard
end Rows
end Go.Proofs.YtkmdhpmgbcdlmaaDoor
