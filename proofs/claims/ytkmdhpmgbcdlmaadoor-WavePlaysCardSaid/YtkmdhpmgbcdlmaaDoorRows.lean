/-
  NARROWER THAN 'FOR EVERY INPUT', by the rows' own cells (each row's printed sentence says how): WaveTables: laid · WavePitches: laid · WaveRounds: laid · WaveRanges: laid · WavePlays: laid · WaveSlopes: laid.
  DERIVED. THE GIVEN ROWS OF THIS SEAT. 6 by the template 'for every input the law returns true; each argument reads behind the call as it read before'; 0 by the template 'total and deterministic' (their statements: YtkmdhpmgbcdlmaaDoorTotals.lean).
  GIVEN WITH THE SEED: the statements are not yours to turn. If you find one false, say at which input.
  Laid BY PROGRAM, IN A SANDBOX (cutbox-rows.mjs): the forced cells as the released guide's own fill.sh prints them over the translation 26883f9a9a484024… (all of the seat's roots in one cut). By AI agents, Wed Nov 11 2026. No macro, syntax, notation, axiom, sorry.
-/
import Derived.Test.YtkmdhpmgbcdlmaaDoorChecked
import GoSem.Claim
import GoSem.ClaimJoined
import GoSem.ClaimMapViews
import Derived.JoinedTies
import Derived.KernelRfl
namespace Go.Proofs.YtkmdhpmgbcdlmaaDoor
/- THE CELL 'sum', in the pinned program and in every row, IS THE sha256 OF THE DUMP (.gsa) THAT YtkmdhpmgbcdlmaaDoorProg.lean LOADS. Nothing in Lean hashes anything: it is a label: what it is worth is what the hold of that sum in a sandbox is worth. -/
noncomputable def Tryd.pinned : Pinned := { name := "ytkmdhpmgbcdlmaadoor", sum := "26883f9a9a484024d0834f46e86ae0821b9bdea2a62763c46e77b68d54c9fcd1", checked := Tryd.checked }
namespace Rows
def none {H : Type} : Left H := { results := [], args := [] }

/- WHAT THE LISTED PACKAGE-LEVEL VARIABLES READ AS WHEN THE CALL BEGINS. Each datum BY PROGRAM (the guide's laid-datum.mjs) off the statement by which the dump's own 'gosem.cut.vars' lays the variable. In a bare row this is a premise. The card (YtkmdhpmgbcdlmaaDoorCards.lean) ties it to the program's text. -/
def laid_kotatsu_wave_masters {H : Type} : DataW H := .agg [.lit (.int .i64 30), .lit (.int .i64 20), .lit (.int .i64 15), .lit (.int .i64 12)]
def laid_kotatsu_wave_turns {H : Type} : DataW H := .agg [.lit (.int .i64 0), .lit (.int .i64 1), .lit (.int .i64 2), .lit (.int .i64 4), .lit (.int .i64 0), .lit (.int .i64 (-4)), .lit (.int .i64 (-2)), .lit (.int .i64 (-1))]

/-- 'kotatsulaw13.WaveTables': WHATEVER THE INPUT: true; the input reads as it did. -/
def waveTablesSpec : ChangeSpec := { name := "waveTables", fn := fun _ => fun
  | [d1, d2, d3, d4] => { results := [.lit (.bool true)], args := [d1, d2, d3, d4] }
  | _ => none }
def waveTablesRow : OpenClaim := { program := "ytkmdhpmgbcdlmaadoor", sum := "26883f9a9a484024d0834f46e86ae0821b9bdea2a62763c46e77b68d54c9fcd1", func := "kotatsu/kotatsulaw13.WaveTables", spec := "waveTables", named := ["kotatsu/wave.masters"], apart := false, laid := [("kotatsu/wave.masters", laid_kotatsu_wave_masters)] }
def WaveTablesSaid : Prop := waveTablesRow.holds Tryd.pinned (OpenSpec.ofChange waveTablesSpec)

/-- ITS FALSE NEIGHBOUR: 'it returns false'. Refute it at one input. -/
def waveTablesWrong : ChangeSpec := { name := "waveTables", fn := fun _ => fun
  | [d1, d2, d3, d4] => { results := [.lit (.bool false)], args := [d1, d2, d3, d4] }
  | _ => none }
def WaveTablesWrongFalsely : Prop := waveTablesRow.holds Tryd.pinned (OpenSpec.ofChange waveTablesWrong)

/-- 'kotatsulaw13.WavePitches': WHATEVER THE INPUT: true; the input reads as it did. -/
def wavePitchesSpec : ChangeSpec := { name := "wavePitches", fn := fun _ => fun
  | [d1, d2, d3] => { results := [.lit (.bool true)], args := [d1, d2, d3] }
  | _ => none }
def wavePitchesRow : OpenClaim := { program := "ytkmdhpmgbcdlmaadoor", sum := "26883f9a9a484024d0834f46e86ae0821b9bdea2a62763c46e77b68d54c9fcd1", func := "kotatsu/kotatsulaw13.WavePitches", spec := "wavePitches", named := ["kotatsu/wave.masters"], apart := false, laid := [("kotatsu/wave.masters", laid_kotatsu_wave_masters)] }
def WavePitchesSaid : Prop := wavePitchesRow.holds Tryd.pinned (OpenSpec.ofChange wavePitchesSpec)

/-- ITS FALSE NEIGHBOUR: 'it returns false'. Refute it at one input. -/
def wavePitchesWrong : ChangeSpec := { name := "wavePitches", fn := fun _ => fun
  | [d1, d2, d3] => { results := [.lit (.bool false)], args := [d1, d2, d3] }
  | _ => none }
def WavePitchesWrongFalsely : Prop := wavePitchesRow.holds Tryd.pinned (OpenSpec.ofChange wavePitchesWrong)

/-- 'kotatsulaw13.WaveRounds': WHATEVER THE INPUT: true; the input reads as it did. -/
def waveRoundsSpec : ChangeSpec := { name := "waveRounds", fn := fun _ => fun
  | [d1, d2, d3] => { results := [.lit (.bool true)], args := [d1, d2, d3] }
  | _ => none }
def waveRoundsRow : OpenClaim := { program := "ytkmdhpmgbcdlmaadoor", sum := "26883f9a9a484024d0834f46e86ae0821b9bdea2a62763c46e77b68d54c9fcd1", func := "kotatsu/kotatsulaw13.WaveRounds", spec := "waveRounds", named := ["kotatsu/wave.masters", "kotatsu/wave.turns"], apart := false, laid := [("kotatsu/wave.turns", laid_kotatsu_wave_turns), ("kotatsu/wave.masters", laid_kotatsu_wave_masters)] }
def WaveRoundsSaid : Prop := waveRoundsRow.holds Tryd.pinned (OpenSpec.ofChange waveRoundsSpec)

/-- ITS FALSE NEIGHBOUR: 'it returns false'. Refute it at one input. -/
def waveRoundsWrong : ChangeSpec := { name := "waveRounds", fn := fun _ => fun
  | [d1, d2, d3] => { results := [.lit (.bool false)], args := [d1, d2, d3] }
  | _ => none }
def WaveRoundsWrongFalsely : Prop := waveRoundsRow.holds Tryd.pinned (OpenSpec.ofChange waveRoundsWrong)

/-- 'kotatsulaw13.WaveRanges': WHATEVER THE INPUT: true; the input reads as it did. -/
def waveRangesSpec : ChangeSpec := { name := "waveRanges", fn := fun _ => fun
  | [d] => { results := [.lit (.bool true)], args := [d] }
  | _ => none }
def waveRangesRow : OpenClaim := { program := "ytkmdhpmgbcdlmaadoor", sum := "26883f9a9a484024d0834f46e86ae0821b9bdea2a62763c46e77b68d54c9fcd1", func := "kotatsu/kotatsulaw13.WaveRanges", spec := "waveRanges", named := ["kotatsu/wave.masters", "kotatsu/wave.turns"], apart := false, laid := [("kotatsu/wave.turns", laid_kotatsu_wave_turns), ("kotatsu/wave.masters", laid_kotatsu_wave_masters)] }
def WaveRangesSaid : Prop := waveRangesRow.holds Tryd.pinned (OpenSpec.ofChange waveRangesSpec)

/-- ITS FALSE NEIGHBOUR: 'it returns false'. Refute it at one input. -/
def waveRangesWrong : ChangeSpec := { name := "waveRanges", fn := fun _ => fun
  | [d] => { results := [.lit (.bool false)], args := [d] }
  | _ => none }
def WaveRangesWrongFalsely : Prop := waveRangesRow.holds Tryd.pinned (OpenSpec.ofChange waveRangesWrong)

/-- 'kotatsulaw13.WavePlays': WHATEVER THE INPUT: true; the input reads as it did. -/
def wavePlaysSpec : ChangeSpec := { name := "wavePlays", fn := fun _ => fun
  | [d] => { results := [.lit (.bool true)], args := [d] }
  | _ => none }
def wavePlaysRow : OpenClaim := { program := "ytkmdhpmgbcdlmaadoor", sum := "26883f9a9a484024d0834f46e86ae0821b9bdea2a62763c46e77b68d54c9fcd1", func := "kotatsu/kotatsulaw13.WavePlays", spec := "wavePlays", named := ["kotatsu/wave.masters", "kotatsu/wave.turns"], apart := false, laid := [("kotatsu/wave.turns", laid_kotatsu_wave_turns), ("kotatsu/wave.masters", laid_kotatsu_wave_masters)] }
def WavePlaysSaid : Prop := wavePlaysRow.holds Tryd.pinned (OpenSpec.ofChange wavePlaysSpec)

/-- ITS FALSE NEIGHBOUR: 'it returns false'. Refute it at one input. -/
def wavePlaysWrong : ChangeSpec := { name := "wavePlays", fn := fun _ => fun
  | [d] => { results := [.lit (.bool false)], args := [d] }
  | _ => none }
def WavePlaysWrongFalsely : Prop := wavePlaysRow.holds Tryd.pinned (OpenSpec.ofChange wavePlaysWrong)

/-- 'kotatsulaw13.WaveSlopes': WHATEVER THE INPUT: true; the input reads as it did. -/
def waveSlopesSpec : ChangeSpec := { name := "waveSlopes", fn := fun _ => fun
  | [d1, d2, d3, d4, d5, d6] => { results := [.lit (.bool true)], args := [d1, d2, d3, d4, d5, d6] }
  | _ => none }
def waveSlopesRow : OpenClaim := { program := "ytkmdhpmgbcdlmaadoor", sum := "26883f9a9a484024d0834f46e86ae0821b9bdea2a62763c46e77b68d54c9fcd1", func := "kotatsu/kotatsulaw13.WaveSlopes", spec := "waveSlopes", named := ["kotatsu/wave.masters", "kotatsu/wave.turns"], apart := false, laid := [("kotatsu/wave.turns", laid_kotatsu_wave_turns), ("kotatsu/wave.masters", laid_kotatsu_wave_masters)] }
def WaveSlopesSaid : Prop := waveSlopesRow.holds Tryd.pinned (OpenSpec.ofChange waveSlopesSpec)

/-- ITS FALSE NEIGHBOUR: 'it returns false'. Refute it at one input. -/
def waveSlopesWrong : ChangeSpec := { name := "waveSlopes", fn := fun _ => fun
  | [d1, d2, d3, d4, d5, d6] => { results := [.lit (.bool false)], args := [d1, d2, d3, d4, d5, d6] }
  | _ => none }
def WaveSlopesWrongFalsely : Prop := waveSlopesRow.holds Tryd.pinned (OpenSpec.ofChange waveSlopesWrong)

/- THE SECOND FORM. 'bulk': how many values and letters a reading holds, each counted each time it is reached (what is shared counts as often as it is met; a slice's spare places count too). A statement '..UptoSaid' is the law's where the arguments, and the package variables that the reading takes, are together of bulk at most 1048576: NARROWER than '..Said'. Prove '..Said' where nothing that the law and all that it calls make is longer than what came in: it says more and counts as full. Else prove '..UptoSaid'. A law counts once. -/
mutual
def uptoBulk {H : Type} : DataW H → Nat
  | .lit (.string bytes) => bytes.length + 1
  | .lit _ => 1
  | .nil => 1
  | .ptr d => uptoBulk d + 1
  | .slice elems spare => uptoBulkAll elems + uptoBulkAll spare + 1
  | .agg parts => uptoBulkAll parts + 1
  | .iface _ d => uptoBulk d + 1
  | .map entries => uptoBulkEntries entries + 1
  | .held _ => 1
def uptoBulkAll {H : Type} : List (DataW H) → Nat
  | [] => 0
  | d :: r => uptoBulk d + uptoBulkAll r
def uptoBulkEntries {H : Type} : List (Lit × DataW H) → Nat
  | [] => 0
  | x :: r => uptoBulkEntry x + uptoBulkEntries r
def uptoBulkEntry {H : Type} : Lit × DataW H → Nat
  | (.string bytes, d) => bytes.length + uptoBulk d + 1
  | (_, d) => uptoBulk d + 1
 end
def uptoSmall : (H : Type) → List (DataW H) → Bool := fun _ ds => decide (uptoBulkAll ds ≤ 1048576)
def OpenSpec.upto (s : _root_.Go.ChangeSpec) : _root_.Go.OpenSpec := { _root_.Go.OpenSpec.ofChange s with cond := some uptoSmall }

/-- 'kotatsulaw13.WaveTables', WHERE WHAT IT READS IS OF BULK AT MOST 1048576: true; the input reads as it did. -/
def waveTablesUptoRow : OpenClaim := { program := "ytkmdhpmgbcdlmaadoor", sum := "26883f9a9a484024d0834f46e86ae0821b9bdea2a62763c46e77b68d54c9fcd1", func := "kotatsu/kotatsulaw13.WaveTables", spec := "waveTables", named := ["kotatsu/wave.masters"], apart := false, laid := [("kotatsu/wave.masters", laid_kotatsu_wave_masters)], narrowed := true }
def WaveTablesUptoSaid : Prop := waveTablesUptoRow.holds Tryd.pinned (OpenSpec.upto waveTablesSpec)

/-- 'kotatsulaw13.WavePitches', WHERE WHAT IT READS IS OF BULK AT MOST 1048576: true; the input reads as it did. -/
def wavePitchesUptoRow : OpenClaim := { program := "ytkmdhpmgbcdlmaadoor", sum := "26883f9a9a484024d0834f46e86ae0821b9bdea2a62763c46e77b68d54c9fcd1", func := "kotatsu/kotatsulaw13.WavePitches", spec := "wavePitches", named := ["kotatsu/wave.masters"], apart := false, laid := [("kotatsu/wave.masters", laid_kotatsu_wave_masters)], narrowed := true }
def WavePitchesUptoSaid : Prop := wavePitchesUptoRow.holds Tryd.pinned (OpenSpec.upto wavePitchesSpec)

/-- 'kotatsulaw13.WaveRounds', WHERE WHAT IT READS IS OF BULK AT MOST 1048576: true; the input reads as it did. -/
def waveRoundsUptoRow : OpenClaim := { program := "ytkmdhpmgbcdlmaadoor", sum := "26883f9a9a484024d0834f46e86ae0821b9bdea2a62763c46e77b68d54c9fcd1", func := "kotatsu/kotatsulaw13.WaveRounds", spec := "waveRounds", named := ["kotatsu/wave.masters", "kotatsu/wave.turns"], apart := false, laid := [("kotatsu/wave.turns", laid_kotatsu_wave_turns), ("kotatsu/wave.masters", laid_kotatsu_wave_masters)], narrowed := true }
def WaveRoundsUptoSaid : Prop := waveRoundsUptoRow.holds Tryd.pinned (OpenSpec.upto waveRoundsSpec)

/-- 'kotatsulaw13.WaveRanges', WHERE WHAT IT READS IS OF BULK AT MOST 1048576: true; the input reads as it did. -/
def waveRangesUptoRow : OpenClaim := { program := "ytkmdhpmgbcdlmaadoor", sum := "26883f9a9a484024d0834f46e86ae0821b9bdea2a62763c46e77b68d54c9fcd1", func := "kotatsu/kotatsulaw13.WaveRanges", spec := "waveRanges", named := ["kotatsu/wave.masters", "kotatsu/wave.turns"], apart := false, laid := [("kotatsu/wave.turns", laid_kotatsu_wave_turns), ("kotatsu/wave.masters", laid_kotatsu_wave_masters)], narrowed := true }
def WaveRangesUptoSaid : Prop := waveRangesUptoRow.holds Tryd.pinned (OpenSpec.upto waveRangesSpec)

/-- 'kotatsulaw13.WavePlays', WHERE WHAT IT READS IS OF BULK AT MOST 1048576: true; the input reads as it did. -/
def wavePlaysUptoRow : OpenClaim := { program := "ytkmdhpmgbcdlmaadoor", sum := "26883f9a9a484024d0834f46e86ae0821b9bdea2a62763c46e77b68d54c9fcd1", func := "kotatsu/kotatsulaw13.WavePlays", spec := "wavePlays", named := ["kotatsu/wave.masters", "kotatsu/wave.turns"], apart := false, laid := [("kotatsu/wave.turns", laid_kotatsu_wave_turns), ("kotatsu/wave.masters", laid_kotatsu_wave_masters)], narrowed := true }
def WavePlaysUptoSaid : Prop := wavePlaysUptoRow.holds Tryd.pinned (OpenSpec.upto wavePlaysSpec)

/-- 'kotatsulaw13.WaveSlopes', WHERE WHAT IT READS IS OF BULK AT MOST 1048576: true; the input reads as it did. -/
def waveSlopesUptoRow : OpenClaim := { program := "ytkmdhpmgbcdlmaadoor", sum := "26883f9a9a484024d0834f46e86ae0821b9bdea2a62763c46e77b68d54c9fcd1", func := "kotatsu/kotatsulaw13.WaveSlopes", spec := "waveSlopes", named := ["kotatsu/wave.masters", "kotatsu/wave.turns"], apart := false, laid := [("kotatsu/wave.turns", laid_kotatsu_wave_turns), ("kotatsu/wave.masters", laid_kotatsu_wave_masters)], narrowed := true }
def WaveSlopesUptoSaid : Prop := waveSlopesUptoRow.holds Tryd.pinned (OpenSpec.upto waveSlopesSpec)

end Rows
end Go.Proofs.YtkmdhpmgbcdlmaaDoor
