/-
  No cell of these rows narrows 'for every input' (looked for: loops, veiled, ifaces, maps, wideKeys, modest, calm, conditions, laid).
  DERIVED. THE GIVEN ROWS OF THIS SEAT. 5 by the template 'for every input the law returns true; each argument reads behind the call as it read before'; 0 by the template 'total and deterministic' (their statements: YtmfdmfflbdghfaaTotals.lean).
  GIVEN WITH THE SEED: the statements are not yours to turn. If you find one false, say at which input.
  Laid BY PROGRAM, IN A SANDBOX (cutbox-rows.mjs): the forced cells as the released guide's own fill.sh prints them over the translation 0f1f299cdb9c9594… (all of the seat's roots in one cut). By AI agents, Wed Nov 11 2026. No macro, syntax, notation, axiom, sorry.
-/
import Derived.Test.YtmfdmfflbdghfaaChecked
import GoSem.Claim
import GoSem.ClaimJoined
import GoSem.ClaimMapViews
import Derived.JoinedTies
import Derived.KernelRfl
namespace Go.Proofs.Ytmfdmfflbdghfaa
/- THE CELL 'sum', in the pinned program and in every row, IS THE sha256 OF THE DUMP (.gsa) THAT YtmfdmfflbdghfaaProg.lean LOADS. Nothing in Lean hashes anything: it is a label: what it is worth is what the hold of that sum in a sandbox is worth. -/
noncomputable def Try.pinned : Pinned := { name := "ytmfdmfflbdghfaa", sum := "0f1f299cdb9c9594b9b00696df6cce0dbac1d42c54b76f31a5a539afda8b0084", checked := Try.checked }
namespace Rows
def none {H : Type} : Left H := { results := [], args := [] }

/-- 'kotatsulaw17.DriveTimes': WHATEVER THE INPUT: true; the input reads as it did. -/
def driveTimesSpec : ChangeSpec := { name := "driveTimes", fn := fun _ => fun
  | [d1, d2] => { results := [.lit (.bool true)], args := [d1, d2] }
  | _ => none }
def driveTimesRow : OpenClaim := { program := "ytmfdmfflbdghfaa", sum := "0f1f299cdb9c9594b9b00696df6cce0dbac1d42c54b76f31a5a539afda8b0084", func := "kotatsu/kotatsulaw17.DriveTimes", spec := "driveTimes", apart := false }
def DriveTimesSaid : Prop := driveTimesRow.holds Try.pinned (OpenSpec.ofChange driveTimesSpec)

/-- ITS FALSE NEIGHBOUR: 'it returns false'. Refute it at one input. -/
def driveTimesWrong : ChangeSpec := { name := "driveTimes", fn := fun _ => fun
  | [d1, d2] => { results := [.lit (.bool false)], args := [d1, d2] }
  | _ => none }
def DriveTimesWrongFalsely : Prop := driveTimesRow.holds Try.pinned (OpenSpec.ofChange driveTimesWrong)

/-- 'kotatsulaw17.DriveRefuses': WHATEVER THE INPUT: true; the input reads as it did. -/
def driveRefusesSpec : ChangeSpec := { name := "driveRefuses", fn := fun _ => fun
  | [d1, d2] => { results := [.lit (.bool true)], args := [d1, d2] }
  | _ => none }
def driveRefusesRow : OpenClaim := { program := "ytmfdmfflbdghfaa", sum := "0f1f299cdb9c9594b9b00696df6cce0dbac1d42c54b76f31a5a539afda8b0084", func := "kotatsu/kotatsulaw17.DriveRefuses", spec := "driveRefuses", apart := false }
def DriveRefusesSaid : Prop := driveRefusesRow.holds Try.pinned (OpenSpec.ofChange driveRefusesSpec)

/-- ITS FALSE NEIGHBOUR: 'it returns false'. Refute it at one input. -/
def driveRefusesWrong : ChangeSpec := { name := "driveRefuses", fn := fun _ => fun
  | [d1, d2] => { results := [.lit (.bool false)], args := [d1, d2] }
  | _ => none }
def DriveRefusesWrongFalsely : Prop := driveRefusesRow.holds Try.pinned (OpenSpec.ofChange driveRefusesWrong)

/-- 'kotatsulaw17.DriveStops': WHATEVER THE INPUT: true; the input reads as it did. -/
def driveStopsSpec : ChangeSpec := { name := "driveStops", fn := fun _ => fun
  | [d1, d2, d3] => { results := [.lit (.bool true)], args := [d1, d2, d3] }
  | _ => none }
def driveStopsRow : OpenClaim := { program := "ytmfdmfflbdghfaa", sum := "0f1f299cdb9c9594b9b00696df6cce0dbac1d42c54b76f31a5a539afda8b0084", func := "kotatsu/kotatsulaw17.DriveStops", spec := "driveStops", apart := false }
def DriveStopsSaid : Prop := driveStopsRow.holds Try.pinned (OpenSpec.ofChange driveStopsSpec)

/-- ITS FALSE NEIGHBOUR: 'it returns false'. Refute it at one input. -/
def driveStopsWrong : ChangeSpec := { name := "driveStops", fn := fun _ => fun
  | [d1, d2, d3] => { results := [.lit (.bool false)], args := [d1, d2, d3] }
  | _ => none }
def DriveStopsWrongFalsely : Prop := driveStopsRow.holds Try.pinned (OpenSpec.ofChange driveStopsWrong)

/-- 'kotatsulaw17.DriveLays': WHATEVER THE INPUT: true; the input reads as it did. -/
def driveLaysSpec : ChangeSpec := { name := "driveLays", fn := fun _ => fun
  | [d1, d2, d3] => { results := [.lit (.bool true)], args := [d1, d2, d3] }
  | _ => none }
def driveLaysRow : OpenClaim := { program := "ytmfdmfflbdghfaa", sum := "0f1f299cdb9c9594b9b00696df6cce0dbac1d42c54b76f31a5a539afda8b0084", func := "kotatsu/kotatsulaw17.DriveLays", spec := "driveLays", apart := false }
def DriveLaysSaid : Prop := driveLaysRow.holds Try.pinned (OpenSpec.ofChange driveLaysSpec)

/-- ITS FALSE NEIGHBOUR: 'it returns false'. Refute it at one input. -/
def driveLaysWrong : ChangeSpec := { name := "driveLays", fn := fun _ => fun
  | [d1, d2, d3] => { results := [.lit (.bool false)], args := [d1, d2, d3] }
  | _ => none }
def DriveLaysWrongFalsely : Prop := driveLaysRow.holds Try.pinned (OpenSpec.ofChange driveLaysWrong)

/-- 'kotatsulaw17.DriveNil': WHATEVER THE INPUT: true; the input reads as it did. -/
def driveNilSpec : ChangeSpec := { name := "driveNil", fn := fun _ => fun
  | [d1, d2, d3] => { results := [.lit (.bool true)], args := [d1, d2, d3] }
  | _ => none }
def driveNilRow : OpenClaim := { program := "ytmfdmfflbdghfaa", sum := "0f1f299cdb9c9594b9b00696df6cce0dbac1d42c54b76f31a5a539afda8b0084", func := "kotatsu/kotatsulaw17.DriveNil", spec := "driveNil", apart := false }
def DriveNilSaid : Prop := driveNilRow.holds Try.pinned (OpenSpec.ofChange driveNilSpec)

/-- ITS FALSE NEIGHBOUR: 'it returns false'. Refute it at one input. -/
def driveNilWrong : ChangeSpec := { name := "driveNil", fn := fun _ => fun
  | [d1, d2, d3] => { results := [.lit (.bool false)], args := [d1, d2, d3] }
  | _ => none }
def DriveNilWrongFalsely : Prop := driveNilRow.holds Try.pinned (OpenSpec.ofChange driveNilWrong)

/- THE SECOND FORM. 'bulk': how many values and letters a reading holds, each counted each time it is reached (what is shared counts as often as it is met; a slice's spare places count too). A statement '..UptoSaid' is the law's where the arguments, and the package variables that the reading takes, are together of bulk at most 1048576: NARROWER than '..Said'. Prove '..Said' where nothing that the law and all that it calls make is longer than what came in: it says more and counts as full. Else prove '..UptoSaid'. A law counts once. -/
mutual
def uptoBulk {H : Type} : DataW H → Nat
  | .lit (.string bytes) => bytes.length + 1
  | .lit _ => 1
  | .nil => 1
  | .ptr d => uptoBulk d + 1
  | .slice elems spare => uptoBulkAll elems + uptoBulkAll spare + 1
  | .agg parts => uptoBulkAll parts + 1
  | .iface _ d => uptoBulk d + 1
  | .map entries => uptoBulkEntries entries + 1
  | .held _ => 1
def uptoBulkAll {H : Type} : List (DataW H) → Nat
  | [] => 0
  | d :: r => uptoBulk d + uptoBulkAll r
def uptoBulkEntries {H : Type} : List (Lit × DataW H) → Nat
  | [] => 0
  | x :: r => uptoBulkEntry x + uptoBulkEntries r
def uptoBulkEntry {H : Type} : Lit × DataW H → Nat
  | (.string bytes, d) => bytes.length + uptoBulk d + 1
  | (_, d) => uptoBulk d + 1
 end
def uptoSmall : (H : Type) → List (DataW H) → Bool := fun _ ds => decide (uptoBulkAll ds ≤ 1048576)
def OpenSpec.upto (s : _root_.Go.ChangeSpec) : _root_.Go.OpenSpec := { _root_.Go.OpenSpec.ofChange s with cond := some uptoSmall }

/-- 'kotatsulaw17.DriveTimes', WHERE WHAT IT READS IS OF BULK AT MOST 1048576: true; the input reads as it did. -/
def driveTimesUptoRow : OpenClaim := { program := "ytmfdmfflbdghfaa", sum := "0f1f299cdb9c9594b9b00696df6cce0dbac1d42c54b76f31a5a539afda8b0084", func := "kotatsu/kotatsulaw17.DriveTimes", spec := "driveTimes", apart := false, narrowed := true }
def DriveTimesUptoSaid : Prop := driveTimesUptoRow.holds Try.pinned (OpenSpec.upto driveTimesSpec)

/-- 'kotatsulaw17.DriveRefuses', WHERE WHAT IT READS IS OF BULK AT MOST 1048576: true; the input reads as it did. -/
def driveRefusesUptoRow : OpenClaim := { program := "ytmfdmfflbdghfaa", sum := "0f1f299cdb9c9594b9b00696df6cce0dbac1d42c54b76f31a5a539afda8b0084", func := "kotatsu/kotatsulaw17.DriveRefuses", spec := "driveRefuses", apart := false, narrowed := true }
def DriveRefusesUptoSaid : Prop := driveRefusesUptoRow.holds Try.pinned (OpenSpec.upto driveRefusesSpec)

/-- 'kotatsulaw17.DriveStops', WHERE WHAT IT READS IS OF BULK AT MOST 1048576: true; the input reads as it did. -/
def driveStopsUptoRow : OpenClaim := { program := "ytmfdmfflbdghfaa", sum := "0f1f299cdb9c9594b9b00696df6cce0dbac1d42c54b76f31a5a539afda8b0084", func := "kotatsu/kotatsulaw17.DriveStops", spec := "driveStops", apart := false, narrowed := true }
def DriveStopsUptoSaid : Prop := driveStopsUptoRow.holds Try.pinned (OpenSpec.upto driveStopsSpec)

/-- 'kotatsulaw17.DriveLays', WHERE WHAT IT READS IS OF BULK AT MOST 1048576: true; the input reads as it did. -/
def driveLaysUptoRow : OpenClaim := { program := "ytmfdmfflbdghfaa", sum := "0f1f299cdb9c9594b9b00696df6cce0dbac1d42c54b76f31a5a539afda8b0084", func := "kotatsu/kotatsulaw17.DriveLays", spec := "driveLays", apart := false, narrowed := true }
def DriveLaysUptoSaid : Prop := driveLaysUptoRow.holds Try.pinned (OpenSpec.upto driveLaysSpec)

/-- 'kotatsulaw17.DriveNil', WHERE WHAT IT READS IS OF BULK AT MOST 1048576: true; the input reads as it did. -/
def driveNilUptoRow : OpenClaim := { program := "ytmfdmfflbdghfaa", sum := "0f1f299cdb9c9594b9b00696df6cce0dbac1d42c54b76f31a5a539afda8b0084", func := "kotatsu/kotatsulaw17.DriveNil", spec := "driveNil", apart := false, narrowed := true }
def DriveNilUptoSaid : Prop := driveNilUptoRow.holds Try.pinned (OpenSpec.upto driveNilSpec)

end Rows
end Go.Proofs.Ytmfdmfflbdghfaa
