/-
  DERIVED. GIVEN WITH THE SEED: THE CARDS: each row of YtkmdhpmgbcdlmabDoorRows.lean that lists a variable, with what it lists TIED to the program's text (the seventh form; the later family's looks); each row that meets fmt, with fmt's text TOLD by the authors' own Lean function (tested against real Go, not proved from fmt's source: count such statements apart). THE CARD IS WHAT COUNTS. Prove the row's statement (the work); the ties are given (YtkmdhpmgbcdlmabDoorTie.lean); close each card by the builder's one call (the guide's Derived/Test/ToyasCard.lean, 'card_holds'). Laid BY PROGRAM, IN A SANDBOX (cutbox-door.mjs). By AI agents, Wed Nov 11 2026. No macro, syntax, notation, axiom, sorry.
-/
import Derived.Test.YtkmdhpmgbcdlmabDoorRows
import GoSem.ClaimSeven
namespace Go.Proofs.YtkmdhpmgbcdlmabDoor
namespace Rows

/-- THE TIED CARD OF 'kotatsulaw13.WaveNil'. -/
def waveNilCard : Claim7 := { stood := { row := waveNilRow, standIns := [], harness := (true, "98336834286c815b254ca7805005e35e262ae4d8da546ad6f44e98b833a92bea"), looks := false }, kinds := [], alts := [], laidByText := true, laidKinds := [.data, .data], laidTests := true, laidLooks := .later }
def WaveNilCardSaid : Prop := Claim7.holds Tryd.pinned (.plain (OpenSpec.ofChange waveNilSpec)) waveNilCard

/-- THE SECOND FORM's CARD OF 'kotatsulaw13.WaveNil'. -/
def waveNilUptoCard : Claim7 := { stood := { row := waveNilUptoRow, standIns := [], harness := (true, "98336834286c815b254ca7805005e35e262ae4d8da546ad6f44e98b833a92bea"), looks := false }, kinds := [], alts := [], laidByText := true, laidKinds := [.data, .data], laidTests := true, laidLooks := .later }
def WaveNilUptoCardSaid : Prop := Claim7.holds Tryd.pinned (.plain (OpenSpec.upto waveNilSpec)) waveNilUptoCard
end Rows
end Go.Proofs.YtkmdhpmgbcdlmabDoor
