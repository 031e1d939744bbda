/-
  NARROWER THAN 'FOR EVERY INPUT', by the rows' own cells (each row's printed sentence says how): AdapterTimes: laid · AdapterShuts: laid · AdapterPlays: laid · AdapterNil: laid · AdapterReads: laid · AdapterWrites: laid.
  DERIVED. THE GIVEN ROWS OF THIS SEAT. 6 by the template 'for every input the law returns true; each argument reads behind the call as it read before'; 0 by the template 'total and deterministic' (their statements: YtaiaapjlpbhlbaaDoorTotals.lean).
  GIVEN WITH THE SEED: the statements are not yours to turn. If you find one false, say at which input.
  Laid BY PROGRAM, IN A SANDBOX (cutbox-rows.mjs): the forced cells as the released guide's own fill.sh prints them over the translation f6871900430fe5a8… (all of the seat's roots in one cut). By AI agents, Wed Nov 11 2026. No macro, syntax, notation, axiom, sorry.
-/
import Derived.Test.YtaiaapjlpbhlbaaDoorChecked
import GoSem.Claim
import GoSem.ClaimJoined
import GoSem.ClaimMapViews
import Derived.JoinedTies
import Derived.KernelRfl
namespace Go.Proofs.YtaiaapjlpbhlbaaDoor
/- THE CELL 'sum', in the pinned program and in every row, IS THE sha256 OF THE DUMP (.gsa) THAT YtaiaapjlpbhlbaaDoorProg.lean LOADS. Nothing in Lean hashes anything: it is a label: what it is worth is what the hold of that sum in a sandbox is worth. -/
noncomputable def Tryd.pinned : Pinned := { name := "ytaiaapjlpbhlbaadoor", sum := "f6871900430fe5a8b1e108472f3e3fb2dc1abbbc235cf7394449b21ddbc4f109", checked := Tryd.checked }
namespace Rows
def none {H : Type} : Left H := { results := [], args := [] }

/- WHAT THE LISTED PACKAGE-LEVEL VARIABLES READ AS WHEN THE CALL BEGINS. Each datum BY PROGRAM (the guide's laid-datum.mjs) off the statement by which the dump's own 'gosem.cut.vars' lays the variable. In a bare row this is a premise. The card (YtaiaapjlpbhlbaaDoorCards.lean) ties it to the program's text. -/
def laid_kotatsu_wave_turns {H : Type} : DataW H := .agg [.lit (.int .i64 0), .lit (.int .i64 1), .lit (.int .i64 2), .lit (.int .i64 4), .lit (.int .i64 0), .lit (.int .i64 (-4)), .lit (.int .i64 (-2)), .lit (.int .i64 (-1))]
def laid_kotatsu_wave_masters {H : Type} : DataW H := .agg [.lit (.int .i64 30), .lit (.int .i64 20), .lit (.int .i64 15), .lit (.int .i64 12)]

/-- 'kotatsulaw18.AdapterTimes': WHATEVER THE INPUT: true; the input reads as it did. -/
def adapterTimesSpec : ChangeSpec := { name := "adapterTimes", fn := fun _ => fun
  | [d1, d2, d3, d4, d5] => { results := [.lit (.bool true)], args := [d1, d2, d3, d4, d5] }
  | _ => none }
def adapterTimesRow : OpenClaim := { program := "ytaiaapjlpbhlbaadoor", sum := "f6871900430fe5a8b1e108472f3e3fb2dc1abbbc235cf7394449b21ddbc4f109", func := "kotatsu/kotatsulaw18.AdapterTimes", spec := "adapterTimes", named := ["kotatsu/wave.masters", "kotatsu/wave.turns"], apart := false, laid := [("kotatsu/wave.turns", laid_kotatsu_wave_turns), ("kotatsu/wave.masters", laid_kotatsu_wave_masters)] }
def AdapterTimesSaid : Prop := adapterTimesRow.holds Tryd.pinned (OpenSpec.ofChange adapterTimesSpec)

/-- ITS FALSE NEIGHBOUR: 'it returns false'. Refute it at one input. -/
def adapterTimesWrong : ChangeSpec := { name := "adapterTimes", fn := fun _ => fun
  | [d1, d2, d3, d4, d5] => { results := [.lit (.bool false)], args := [d1, d2, d3, d4, d5] }
  | _ => none }
def AdapterTimesWrongFalsely : Prop := adapterTimesRow.holds Tryd.pinned (OpenSpec.ofChange adapterTimesWrong)

/-- 'kotatsulaw18.AdapterShuts': WHATEVER THE INPUT: true; the input reads as it did. -/
def adapterShutsSpec : ChangeSpec := { name := "adapterShuts", fn := fun _ => fun
  | [d1, d2, d3, d4] => { results := [.lit (.bool true)], args := [d1, d2, d3, d4] }
  | _ => none }
def adapterShutsRow : OpenClaim := { program := "ytaiaapjlpbhlbaadoor", sum := "f6871900430fe5a8b1e108472f3e3fb2dc1abbbc235cf7394449b21ddbc4f109", func := "kotatsu/kotatsulaw18.AdapterShuts", spec := "adapterShuts", named := ["kotatsu/wave.masters", "kotatsu/wave.turns"], apart := false, laid := [("kotatsu/wave.turns", laid_kotatsu_wave_turns), ("kotatsu/wave.masters", laid_kotatsu_wave_masters)] }
def AdapterShutsSaid : Prop := adapterShutsRow.holds Tryd.pinned (OpenSpec.ofChange adapterShutsSpec)

/-- ITS FALSE NEIGHBOUR: 'it returns false'. Refute it at one input. -/
def adapterShutsWrong : ChangeSpec := { name := "adapterShuts", fn := fun _ => fun
  | [d1, d2, d3, d4] => { results := [.lit (.bool false)], args := [d1, d2, d3, d4] }
  | _ => none }
def AdapterShutsWrongFalsely : Prop := adapterShutsRow.holds Tryd.pinned (OpenSpec.ofChange adapterShutsWrong)

/-- 'kotatsulaw18.AdapterPlays': WHATEVER THE INPUT: true; the input reads as it did. -/
def adapterPlaysSpec : ChangeSpec := { name := "adapterPlays", fn := fun _ => fun
  | [d] => { results := [.lit (.bool true)], args := [d] }
  | _ => none }
def adapterPlaysRow : OpenClaim := { program := "ytaiaapjlpbhlbaadoor", sum := "f6871900430fe5a8b1e108472f3e3fb2dc1abbbc235cf7394449b21ddbc4f109", func := "kotatsu/kotatsulaw18.AdapterPlays", spec := "adapterPlays", named := ["kotatsu/wave.masters", "kotatsu/wave.turns"], apart := false, laid := [("kotatsu/wave.turns", laid_kotatsu_wave_turns), ("kotatsu/wave.masters", laid_kotatsu_wave_masters)] }
def AdapterPlaysSaid : Prop := adapterPlaysRow.holds Tryd.pinned (OpenSpec.ofChange adapterPlaysSpec)

/-- ITS FALSE NEIGHBOUR: 'it returns false'. Refute it at one input. -/
def adapterPlaysWrong : ChangeSpec := { name := "adapterPlays", fn := fun _ => fun
  | [d] => { results := [.lit (.bool false)], args := [d] }
  | _ => none }
def AdapterPlaysWrongFalsely : Prop := adapterPlaysRow.holds Tryd.pinned (OpenSpec.ofChange adapterPlaysWrong)

/-- 'kotatsulaw18.AdapterNil': WHATEVER THE INPUT: true; the input reads as it did. -/
def adapterNilSpec : ChangeSpec := { name := "adapterNil", fn := fun _ => fun
  | [d1, d2, d3] => { results := [.lit (.bool true)], args := [d1, d2, d3] }
  | _ => none }
def adapterNilRow : OpenClaim := { program := "ytaiaapjlpbhlbaadoor", sum := "f6871900430fe5a8b1e108472f3e3fb2dc1abbbc235cf7394449b21ddbc4f109", func := "kotatsu/kotatsulaw18.AdapterNil", spec := "adapterNil", named := ["kotatsu/wave.masters", "kotatsu/wave.turns"], apart := false, laid := [("kotatsu/wave.turns", laid_kotatsu_wave_turns), ("kotatsu/wave.masters", laid_kotatsu_wave_masters)] }
def AdapterNilSaid : Prop := adapterNilRow.holds Tryd.pinned (OpenSpec.ofChange adapterNilSpec)

/-- ITS FALSE NEIGHBOUR: 'it returns false'. Refute it at one input. -/
def adapterNilWrong : ChangeSpec := { name := "adapterNil", fn := fun _ => fun
  | [d1, d2, d3] => { results := [.lit (.bool false)], args := [d1, d2, d3] }
  | _ => none }
def AdapterNilWrongFalsely : Prop := adapterNilRow.holds Tryd.pinned (OpenSpec.ofChange adapterNilWrong)

/-- 'kotatsulaw18.AdapterReads': WHATEVER THE INPUT: true; the input reads as it did. -/
def adapterReadsSpec : ChangeSpec := { name := "adapterReads", fn := fun _ => fun
  | [d1, d2, d3, d4] => { results := [.lit (.bool true)], args := [d1, d2, d3, d4] }
  | _ => none }
def adapterReadsRow : OpenClaim := { program := "ytaiaapjlpbhlbaadoor", sum := "f6871900430fe5a8b1e108472f3e3fb2dc1abbbc235cf7394449b21ddbc4f109", func := "kotatsu/kotatsulaw18.AdapterReads", spec := "adapterReads", named := ["kotatsu/wave.masters", "kotatsu/wave.turns"], apart := false, laid := [("kotatsu/wave.turns", laid_kotatsu_wave_turns), ("kotatsu/wave.masters", laid_kotatsu_wave_masters)] }
def AdapterReadsSaid : Prop := adapterReadsRow.holds Tryd.pinned (OpenSpec.ofChange adapterReadsSpec)

/-- ITS FALSE NEIGHBOUR: 'it returns false'. Refute it at one input. -/
def adapterReadsWrong : ChangeSpec := { name := "adapterReads", fn := fun _ => fun
  | [d1, d2, d3, d4] => { results := [.lit (.bool false)], args := [d1, d2, d3, d4] }
  | _ => none }
def AdapterReadsWrongFalsely : Prop := adapterReadsRow.holds Tryd.pinned (OpenSpec.ofChange adapterReadsWrong)

/-- 'kotatsulaw18.AdapterWrites': WHATEVER THE INPUT: true; the input reads as it did. -/
def adapterWritesSpec : ChangeSpec := { name := "adapterWrites", fn := fun _ => fun
  | [d1, d2, d3] => { results := [.lit (.bool true)], args := [d1, d2, d3] }
  | _ => none }
def adapterWritesRow : OpenClaim := { program := "ytaiaapjlpbhlbaadoor", sum := "f6871900430fe5a8b1e108472f3e3fb2dc1abbbc235cf7394449b21ddbc4f109", func := "kotatsu/kotatsulaw18.AdapterWrites", spec := "adapterWrites", named := ["kotatsu/wave.masters", "kotatsu/wave.turns"], apart := false, laid := [("kotatsu/wave.turns", laid_kotatsu_wave_turns), ("kotatsu/wave.masters", laid_kotatsu_wave_masters)] }
def AdapterWritesSaid : Prop := adapterWritesRow.holds Tryd.pinned (OpenSpec.ofChange adapterWritesSpec)

/-- ITS FALSE NEIGHBOUR: 'it returns false'. Refute it at one input. -/
def adapterWritesWrong : ChangeSpec := { name := "adapterWrites", fn := fun _ => fun
  | [d1, d2, d3] => { results := [.lit (.bool false)], args := [d1, d2, d3] }
  | _ => none }
def AdapterWritesWrongFalsely : Prop := adapterWritesRow.holds Tryd.pinned (OpenSpec.ofChange adapterWritesWrong)

/- THE SECOND FORM. 'bulk': how many values and letters a reading holds, each counted each time it is reached (what is shared counts as often as it is met; a slice's spare places count too). A statement '..UptoSaid' is the law's where the arguments, and the package variables that the reading takes, are together of bulk at most 1048576: NARROWER than '..Said'. Prove '..Said' where nothing that the law and all that it calls make is longer than what came in: it says more and counts as full. Else prove '..UptoSaid'. A law counts once. -/
mutual
def uptoBulk {H : Type} : DataW H → Nat
  | .lit (.string bytes) => bytes.length + 1
  | .lit _ => 1
  | .nil => 1
  | .ptr d => uptoBulk d + 1
  | .slice elems spare => uptoBulkAll elems + uptoBulkAll spare + 1
  | .agg parts => uptoBulkAll parts + 1
  | .iface _ d => uptoBulk d + 1
  | .map entries => uptoBulkEntries entries + 1
  | .held _ => 1
def uptoBulkAll {H : Type} : List (DataW H) → Nat
  | [] => 0
  | d :: r => uptoBulk d + uptoBulkAll r
def uptoBulkEntries {H : Type} : List (Lit × DataW H) → Nat
  | [] => 0
  | x :: r => uptoBulkEntry x + uptoBulkEntries r
def uptoBulkEntry {H : Type} : Lit × DataW H → Nat
  | (.string bytes, d) => bytes.length + uptoBulk d + 1
  | (_, d) => uptoBulk d + 1
 end
def uptoSmall : (H : Type) → List (DataW H) → Bool := fun _ ds => decide (uptoBulkAll ds ≤ 1048576)
def OpenSpec.upto (s : _root_.Go.ChangeSpec) : _root_.Go.OpenSpec := { _root_.Go.OpenSpec.ofChange s with cond := some uptoSmall }

/-- 'kotatsulaw18.AdapterTimes', WHERE WHAT IT READS IS OF BULK AT MOST 1048576: true; the input reads as it did. -/
def adapterTimesUptoRow : OpenClaim := { program := "ytaiaapjlpbhlbaadoor", sum := "f6871900430fe5a8b1e108472f3e3fb2dc1abbbc235cf7394449b21ddbc4f109", func := "kotatsu/kotatsulaw18.AdapterTimes", spec := "adapterTimes", named := ["kotatsu/wave.masters", "kotatsu/wave.turns"], apart := false, laid := [("kotatsu/wave.turns", laid_kotatsu_wave_turns), ("kotatsu/wave.masters", laid_kotatsu_wave_masters)], narrowed := true }
def AdapterTimesUptoSaid : Prop := adapterTimesUptoRow.holds Tryd.pinned (OpenSpec.upto adapterTimesSpec)

/-- 'kotatsulaw18.AdapterShuts', WHERE WHAT IT READS IS OF BULK AT MOST 1048576: true; the input reads as it did. -/
def adapterShutsUptoRow : OpenClaim := { program := "ytaiaapjlpbhlbaadoor", sum := "f6871900430fe5a8b1e108472f3e3fb2dc1abbbc235cf7394449b21ddbc4f109", func := "kotatsu/kotatsulaw18.AdapterShuts", spec := "adapterShuts", named := ["kotatsu/wave.masters", "kotatsu/wave.turns"], apart := false, laid := [("kotatsu/wave.turns", laid_kotatsu_wave_turns), ("kotatsu/wave.masters", laid_kotatsu_wave_masters)], narrowed := true }
def AdapterShutsUptoSaid : Prop := adapterShutsUptoRow.holds Tryd.pinned (OpenSpec.upto adapterShutsSpec)

/-- 'kotatsulaw18.AdapterPlays', WHERE WHAT IT READS IS OF BULK AT MOST 1048576: true; the input reads as it did. -/
def adapterPlaysUptoRow : OpenClaim := { program := "ytaiaapjlpbhlbaadoor", sum := "f6871900430fe5a8b1e108472f3e3fb2dc1abbbc235cf7394449b21ddbc4f109", func := "kotatsu/kotatsulaw18.AdapterPlays", spec := "adapterPlays", named := ["kotatsu/wave.masters", "kotatsu/wave.turns"], apart := false, laid := [("kotatsu/wave.turns", laid_kotatsu_wave_turns), ("kotatsu/wave.masters", laid_kotatsu_wave_masters)], narrowed := true }
def AdapterPlaysUptoSaid : Prop := adapterPlaysUptoRow.holds Tryd.pinned (OpenSpec.upto adapterPlaysSpec)

/-- 'kotatsulaw18.AdapterNil', WHERE WHAT IT READS IS OF BULK AT MOST 1048576: true; the input reads as it did. -/
def adapterNilUptoRow : OpenClaim := { program := "ytaiaapjlpbhlbaadoor", sum := "f6871900430fe5a8b1e108472f3e3fb2dc1abbbc235cf7394449b21ddbc4f109", func := "kotatsu/kotatsulaw18.AdapterNil", spec := "adapterNil", named := ["kotatsu/wave.masters", "kotatsu/wave.turns"], apart := false, laid := [("kotatsu/wave.turns", laid_kotatsu_wave_turns), ("kotatsu/wave.masters", laid_kotatsu_wave_masters)], narrowed := true }
def AdapterNilUptoSaid : Prop := adapterNilUptoRow.holds Tryd.pinned (OpenSpec.upto adapterNilSpec)

/-- 'kotatsulaw18.AdapterReads', WHERE WHAT IT READS IS OF BULK AT MOST 1048576: true; the input reads as it did. -/
def adapterReadsUptoRow : OpenClaim := { program := "ytaiaapjlpbhlbaadoor", sum := "f6871900430fe5a8b1e108472f3e3fb2dc1abbbc235cf7394449b21ddbc4f109", func := "kotatsu/kotatsulaw18.AdapterReads", spec := "adapterReads", named := ["kotatsu/wave.masters", "kotatsu/wave.turns"], apart := false, laid := [("kotatsu/wave.turns", laid_kotatsu_wave_turns), ("kotatsu/wave.masters", laid_kotatsu_wave_masters)], narrowed := true }
def AdapterReadsUptoSaid : Prop := adapterReadsUptoRow.holds Tryd.pinned (OpenSpec.upto adapterReadsSpec)

/-- 'kotatsulaw18.AdapterWrites', WHERE WHAT IT READS IS OF BULK AT MOST 1048576: true; the input reads as it did. -/
def adapterWritesUptoRow : OpenClaim := { program := "ytaiaapjlpbhlbaadoor", sum := "f6871900430fe5a8b1e108472f3e3fb2dc1abbbc235cf7394449b21ddbc4f109", func := "kotatsu/kotatsulaw18.AdapterWrites", spec := "adapterWrites", named := ["kotatsu/wave.masters", "kotatsu/wave.turns"], apart := false, laid := [("kotatsu/wave.turns", laid_kotatsu_wave_turns), ("kotatsu/wave.masters", laid_kotatsu_wave_masters)], narrowed := true }
def AdapterWritesUptoSaid : Prop := adapterWritesUptoRow.holds Tryd.pinned (OpenSpec.upto adapterWritesSpec)

end Rows
end Go.Proofs.YtaiaapjlpbhlbaaDoor
