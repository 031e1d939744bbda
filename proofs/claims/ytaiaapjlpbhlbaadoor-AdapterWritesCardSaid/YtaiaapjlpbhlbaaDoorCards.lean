/-
  DERIVED. GIVEN WITH THE SEED: THE CARDS: each row of YtaiaapjlpbhlbaaDoorRows.lean that lists a variable, with what it lists TIED to the program's text (the seventh form; the later family's looks); each row that meets fmt, with fmt's text TOLD by the authors' own Lean function (tested against real Go, not proved from fmt's source: count such statements apart). THE CARD IS WHAT COUNTS. Prove the row's statement (the work); the ties are given (YtaiaapjlpbhlbaaDoorTie.lean); close each card by the builder's one call (the guide's Derived/Test/ToyasCard.lean, 'card_holds'). Laid BY PROGRAM, IN A SANDBOX (cutbox-door.mjs). By AI agents, Wed Nov 11 2026. No macro, syntax, notation, axiom, sorry.
-/
import Derived.Test.YtaiaapjlpbhlbaaDoorRows
import GoSem.ClaimSeven
namespace Go.Proofs.YtaiaapjlpbhlbaaDoor
namespace Rows

/-- THE TIED CARD OF 'kotatsulaw18.AdapterTimes'. -/
def adapterTimesCard : Claim7 := { stood := { row := adapterTimesRow, standIns := [], harness := (true, "01b2657b2da09b5ed8d54bfc5571bf290ca8586223a1db19b222f8fd382673f8"), looks := false }, kinds := [], alts := [], laidByText := true, laidKinds := [.data, .data], laidTests := true, laidLooks := .later }
def AdapterTimesCardSaid : Prop := Claim7.holds Tryd.pinned (.plain (OpenSpec.ofChange adapterTimesSpec)) adapterTimesCard

/-- THE TIED CARD OF 'kotatsulaw18.AdapterShuts'. -/
def adapterShutsCard : Claim7 := { stood := { row := adapterShutsRow, standIns := [], harness := (true, "01b2657b2da09b5ed8d54bfc5571bf290ca8586223a1db19b222f8fd382673f8"), looks := false }, kinds := [], alts := [], laidByText := true, laidKinds := [.data, .data], laidTests := true, laidLooks := .later }
def AdapterShutsCardSaid : Prop := Claim7.holds Tryd.pinned (.plain (OpenSpec.ofChange adapterShutsSpec)) adapterShutsCard

/-- THE TIED CARD OF 'kotatsulaw18.AdapterPlays'. -/
def adapterPlaysCard : Claim7 := { stood := { row := adapterPlaysRow, standIns := [], harness := (true, "01b2657b2da09b5ed8d54bfc5571bf290ca8586223a1db19b222f8fd382673f8"), looks := false }, kinds := [], alts := [], laidByText := true, laidKinds := [.data, .data], laidTests := true, laidLooks := .later }
def AdapterPlaysCardSaid : Prop := Claim7.holds Tryd.pinned (.plain (OpenSpec.ofChange adapterPlaysSpec)) adapterPlaysCard

/-- THE TIED CARD OF 'kotatsulaw18.AdapterNil'. -/
def adapterNilCard : Claim7 := { stood := { row := adapterNilRow, standIns := [], harness := (true, "01b2657b2da09b5ed8d54bfc5571bf290ca8586223a1db19b222f8fd382673f8"), looks := false }, kinds := [], alts := [], laidByText := true, laidKinds := [.data, .data], laidTests := true, laidLooks := .later }
def AdapterNilCardSaid : Prop := Claim7.holds Tryd.pinned (.plain (OpenSpec.ofChange adapterNilSpec)) adapterNilCard

/-- THE TIED CARD OF 'kotatsulaw18.AdapterReads'. -/
def adapterReadsCard : Claim7 := { stood := { row := adapterReadsRow, standIns := [], harness := (true, "01b2657b2da09b5ed8d54bfc5571bf290ca8586223a1db19b222f8fd382673f8"), looks := false }, kinds := [], alts := [], laidByText := true, laidKinds := [.data, .data], laidTests := true, laidLooks := .later }
def AdapterReadsCardSaid : Prop := Claim7.holds Tryd.pinned (.plain (OpenSpec.ofChange adapterReadsSpec)) adapterReadsCard

/-- THE TIED CARD OF 'kotatsulaw18.AdapterWrites'. -/
def adapterWritesCard : Claim7 := { stood := { row := adapterWritesRow, standIns := [], harness := (true, "01b2657b2da09b5ed8d54bfc5571bf290ca8586223a1db19b222f8fd382673f8"), looks := false }, kinds := [], alts := [], laidByText := true, laidKinds := [.data, .data], laidTests := true, laidLooks := .later }
def AdapterWritesCardSaid : Prop := Claim7.holds Tryd.pinned (.plain (OpenSpec.ofChange adapterWritesSpec)) adapterWritesCard

/-- THE SECOND FORM's CARD OF 'kotatsulaw18.AdapterTimes'. -/
def adapterTimesUptoCard : Claim7 := { stood := { row := adapterTimesUptoRow, standIns := [], harness := (true, "01b2657b2da09b5ed8d54bfc5571bf290ca8586223a1db19b222f8fd382673f8"), looks := false }, kinds := [], alts := [], laidByText := true, laidKinds := [.data, .data], laidTests := true, laidLooks := .later }
def AdapterTimesUptoCardSaid : Prop := Claim7.holds Tryd.pinned (.plain (OpenSpec.upto adapterTimesSpec)) adapterTimesUptoCard

/-- THE SECOND FORM's CARD OF 'kotatsulaw18.AdapterShuts'. -/
def adapterShutsUptoCard : Claim7 := { stood := { row := adapterShutsUptoRow, standIns := [], harness := (true, "01b2657b2da09b5ed8d54bfc5571bf290ca8586223a1db19b222f8fd382673f8"), looks := false }, kinds := [], alts := [], laidByText := true, laidKinds := [.data, .data], laidTests := true, laidLooks := .later }
def AdapterShutsUptoCardSaid : Prop := Claim7.holds Tryd.pinned (.plain (OpenSpec.upto adapterShutsSpec)) adapterShutsUptoCard

/-- THE SECOND FORM's CARD OF 'kotatsulaw18.AdapterPlays'. -/
def adapterPlaysUptoCard : Claim7 := { stood := { row := adapterPlaysUptoRow, standIns := [], harness := (true, "01b2657b2da09b5ed8d54bfc5571bf290ca8586223a1db19b222f8fd382673f8"), looks := false }, kinds := [], alts := [], laidByText := true, laidKinds := [.data, .data], laidTests := true, laidLooks := .later }
def AdapterPlaysUptoCardSaid : Prop := Claim7.holds Tryd.pinned (.plain (OpenSpec.upto adapterPlaysSpec)) adapterPlaysUptoCard

/-- THE SECOND FORM's CARD OF 'kotatsulaw18.AdapterNil'. -/
def adapterNilUptoCard : Claim7 := { stood := { row := adapterNilUptoRow, standIns := [], harness := (true, "01b2657b2da09b5ed8d54bfc5571bf290ca8586223a1db19b222f8fd382673f8"), looks := false }, kinds := [], alts := [], laidByText := true, laidKinds := [.data, .data], laidTests := true, laidLooks := .later }
def AdapterNilUptoCardSaid : Prop := Claim7.holds Tryd.pinned (.plain (OpenSpec.upto adapterNilSpec)) adapterNilUptoCard

/-- THE SECOND FORM's CARD OF 'kotatsulaw18.AdapterReads'. -/
def adapterReadsUptoCard : Claim7 := { stood := { row := adapterReadsUptoRow, standIns := [], harness := (true, "01b2657b2da09b5ed8d54bfc5571bf290ca8586223a1db19b222f8fd382673f8"), looks := false }, kinds := [], alts := [], laidByText := true, laidKinds := [.data, .data], laidTests := true, laidLooks := .later }
def AdapterReadsUptoCardSaid : Prop := Claim7.holds Tryd.pinned (.plain (OpenSpec.upto adapterReadsSpec)) adapterReadsUptoCard

/-- THE SECOND FORM's CARD OF 'kotatsulaw18.AdapterWrites'. -/
def adapterWritesUptoCard : Claim7 := { stood := { row := adapterWritesUptoRow, standIns := [], harness := (true, "01b2657b2da09b5ed8d54bfc5571bf290ca8586223a1db19b222f8fd382673f8"), looks := false }, kinds := [], alts := [], laidByText := true, laidKinds := [.data, .data], laidTests := true, laidLooks := .later }
def AdapterWritesUptoCardSaid : Prop := Claim7.holds Tryd.pinned (.plain (OpenSpec.upto adapterWritesSpec)) adapterWritesUptoCard
end Rows
end Go.Proofs.YtaiaapjlpbhlbaaDoor
