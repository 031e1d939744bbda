/-
  No cell of these rows narrows 'for every input' (looked for: loops, veiled, ifaces, maps, wideKeys, modest, calm, conditions, laid).
  DERIVED. THE GIVEN ROWS OF THIS SEAT. 4 by the template 'for every input the law returns true; each argument reads behind the call as it read before'; 0 by the template 'total and deterministic' (their statements: YtgahcipgglkkhaaTotals.lean).
  GIVEN WITH THE SEED: the statements are not yours to turn. If you find one false, say at which input.
  Laid BY PROGRAM, IN A SANDBOX (cutbox-rows.mjs): the forced cells as the released guide's own fill.sh prints them over the translation 45127f73b6876552… (all of the seat's roots in one cut). By AI agents, Wed Nov 11 2026. No macro, syntax, notation, axiom, sorry.
-/
import Derived.Test.YtgahcipgglkkhaaChecked
import GoSem.Claim
import GoSem.ClaimJoined
import GoSem.ClaimMapViews
import Derived.JoinedTies
import Derived.KernelRfl
namespace Go.Proofs.Ytgahcipgglkkhaa
/- THE CELL 'sum', in the pinned program and in every row, IS THE sha256 OF THE DUMP (.gsa) THAT YtgahcipgglkkhaaProg.lean LOADS. Nothing in Lean hashes anything: it is a label: what it is worth is what the hold of that sum in a sandbox is worth. -/
noncomputable def Try.pinned : Pinned := { name := "ytgahcipgglkkhaa", sum := "45127f73b6876552f47a389cf312be4bd08291f2cd4a07e33dc1f88f819f12d4", checked := Try.checked }
namespace Rows
def none {H : Type} : Left H := { results := [], args := [] }

/-- 'kotatsulaw07.GroovePatches': WHATEVER THE INPUT: true; the input reads as it did. -/
def groovePatchesSpec : ChangeSpec := { name := "groovePatches", fn := fun _ => fun
  | [d1, d2, d3] => { results := [.lit (.bool true)], args := [d1, d2, d3] }
  | _ => none }
def groovePatchesRow : OpenClaim := { program := "ytgahcipgglkkhaa", sum := "45127f73b6876552f47a389cf312be4bd08291f2cd4a07e33dc1f88f819f12d4", func := "kotatsu/kotatsulaw07.GroovePatches", spec := "groovePatches", apart := false }
def GroovePatchesSaid : Prop := groovePatchesRow.holds Try.pinned (OpenSpec.ofChange groovePatchesSpec)

/-- ITS FALSE NEIGHBOUR: 'it returns false'. Refute it at one input. -/
def groovePatchesWrong : ChangeSpec := { name := "groovePatches", fn := fun _ => fun
  | [d1, d2, d3] => { results := [.lit (.bool false)], args := [d1, d2, d3] }
  | _ => none }
def GroovePatchesWrongFalsely : Prop := groovePatchesRow.holds Try.pinned (OpenSpec.ofChange groovePatchesWrong)

/-- 'kotatsulaw07.GrooveReads': WHATEVER THE INPUT: true; the input reads as it did. -/
def grooveReadsSpec : ChangeSpec := { name := "grooveReads", fn := fun _ => fun
  | [d1, d2, d3, d4] => { results := [.lit (.bool true)], args := [d1, d2, d3, d4] }
  | _ => none }
def grooveReadsRow : OpenClaim := { program := "ytgahcipgglkkhaa", sum := "45127f73b6876552f47a389cf312be4bd08291f2cd4a07e33dc1f88f819f12d4", func := "kotatsu/kotatsulaw07.GrooveReads", spec := "grooveReads", apart := false }
def GrooveReadsSaid : Prop := grooveReadsRow.holds Try.pinned (OpenSpec.ofChange grooveReadsSpec)

/-- ITS FALSE NEIGHBOUR: 'it returns false'. Refute it at one input. -/
def grooveReadsWrong : ChangeSpec := { name := "grooveReads", fn := fun _ => fun
  | [d1, d2, d3, d4] => { results := [.lit (.bool false)], args := [d1, d2, d3, d4] }
  | _ => none }
def GrooveReadsWrongFalsely : Prop := grooveReadsRow.holds Try.pinned (OpenSpec.ofChange grooveReadsWrong)

/-- 'kotatsulaw07.GrooveFits': WHATEVER THE INPUT: true; the input reads as it did. -/
def grooveFitsSpec : ChangeSpec := { name := "grooveFits", fn := fun _ => fun
  | [d] => { results := [.lit (.bool true)], args := [d] }
  | _ => none }
def grooveFitsRow : OpenClaim := { program := "ytgahcipgglkkhaa", sum := "45127f73b6876552f47a389cf312be4bd08291f2cd4a07e33dc1f88f819f12d4", func := "kotatsu/kotatsulaw07.GrooveFits", spec := "grooveFits", unfollowed := true, recurses := true, apart := false }
def GrooveFitsSaid : Prop := grooveFitsRow.holds Try.pinned (OpenSpec.ofChange grooveFitsSpec)

/-- ITS FALSE NEIGHBOUR: 'it returns false'. Refute it at one input. -/
def grooveFitsWrong : ChangeSpec := { name := "grooveFits", fn := fun _ => fun
  | [d] => { results := [.lit (.bool false)], args := [d] }
  | _ => none }
def GrooveFitsWrongFalsely : Prop := grooveFitsRow.holds Try.pinned (OpenSpec.ofChange grooveFitsWrong)

/-- 'kotatsulaw07.GrooveLays': WHATEVER THE INPUT: true; the input reads as it did. -/
def grooveLaysSpec : ChangeSpec := { name := "grooveLays", fn := fun _ => fun
  | [d1, d2] => { results := [.lit (.bool true)], args := [d1, d2] }
  | _ => none }
def grooveLaysRow : OpenClaim := { program := "ytgahcipgglkkhaa", sum := "45127f73b6876552f47a389cf312be4bd08291f2cd4a07e33dc1f88f819f12d4", func := "kotatsu/kotatsulaw07.GrooveLays", spec := "grooveLays", unfollowed := true, recurses := true, apart := false }
def GrooveLaysSaid : Prop := grooveLaysRow.holds Try.pinned (OpenSpec.ofChange grooveLaysSpec)

/-- ITS FALSE NEIGHBOUR: 'it returns false'. Refute it at one input. -/
def grooveLaysWrong : ChangeSpec := { name := "grooveLays", fn := fun _ => fun
  | [d1, d2] => { results := [.lit (.bool false)], args := [d1, d2] }
  | _ => none }
def GrooveLaysWrongFalsely : Prop := grooveLaysRow.holds Try.pinned (OpenSpec.ofChange grooveLaysWrong)

/- THE SECOND FORM. 'bulk': how many values and letters a reading holds, each counted each time it is reached (what is shared counts as often as it is met; a slice's spare places count too). A statement '..UptoSaid' is the law's where the arguments, and the package variables that the reading takes, are together of bulk at most 1048576: NARROWER than '..Said'. Prove '..Said' where nothing that the law and all that it calls make is longer than what came in: it says more and counts as full. Else prove '..UptoSaid'. A law counts once. -/
mutual
def uptoBulk {H : Type} : DataW H → Nat
  | .lit (.string bytes) => bytes.length + 1
  | .lit _ => 1
  | .nil => 1
  | .ptr d => uptoBulk d + 1
  | .slice elems spare => uptoBulkAll elems + uptoBulkAll spare + 1
  | .agg parts => uptoBulkAll parts + 1
  | .iface _ d => uptoBulk d + 1
  | .map entries => uptoBulkEntries entries + 1
  | .held _ => 1
def uptoBulkAll {H : Type} : List (DataW H) → Nat
  | [] => 0
  | d :: r => uptoBulk d + uptoBulkAll r
def uptoBulkEntries {H : Type} : List (Lit × DataW H) → Nat
  | [] => 0
  | x :: r => uptoBulkEntry x + uptoBulkEntries r
def uptoBulkEntry {H : Type} : Lit × DataW H → Nat
  | (.string bytes, d) => bytes.length + uptoBulk d + 1
  | (_, d) => uptoBulk d + 1
 end
def uptoSmall : (H : Type) → List (DataW H) → Bool := fun _ ds => decide (uptoBulkAll ds ≤ 1048576)
def OpenSpec.upto (s : _root_.Go.ChangeSpec) : _root_.Go.OpenSpec := { _root_.Go.OpenSpec.ofChange s with cond := some uptoSmall }

/-- 'kotatsulaw07.GroovePatches', WHERE WHAT IT READS IS OF BULK AT MOST 1048576: true; the input reads as it did. -/
def groovePatchesUptoRow : OpenClaim := { program := "ytgahcipgglkkhaa", sum := "45127f73b6876552f47a389cf312be4bd08291f2cd4a07e33dc1f88f819f12d4", func := "kotatsu/kotatsulaw07.GroovePatches", spec := "groovePatches", apart := false, narrowed := true }
def GroovePatchesUptoSaid : Prop := groovePatchesUptoRow.holds Try.pinned (OpenSpec.upto groovePatchesSpec)

/-- 'kotatsulaw07.GrooveReads', WHERE WHAT IT READS IS OF BULK AT MOST 1048576: true; the input reads as it did. -/
def grooveReadsUptoRow : OpenClaim := { program := "ytgahcipgglkkhaa", sum := "45127f73b6876552f47a389cf312be4bd08291f2cd4a07e33dc1f88f819f12d4", func := "kotatsu/kotatsulaw07.GrooveReads", spec := "grooveReads", apart := false, narrowed := true }
def GrooveReadsUptoSaid : Prop := grooveReadsUptoRow.holds Try.pinned (OpenSpec.upto grooveReadsSpec)

/-- 'kotatsulaw07.GrooveFits', WHERE WHAT IT READS IS OF BULK AT MOST 1048576: true; the input reads as it did. -/
def grooveFitsUptoRow : OpenClaim := { program := "ytgahcipgglkkhaa", sum := "45127f73b6876552f47a389cf312be4bd08291f2cd4a07e33dc1f88f819f12d4", func := "kotatsu/kotatsulaw07.GrooveFits", spec := "grooveFits", unfollowed := true, recurses := true, apart := false, narrowed := true }
def GrooveFitsUptoSaid : Prop := grooveFitsUptoRow.holds Try.pinned (OpenSpec.upto grooveFitsSpec)

/-- 'kotatsulaw07.GrooveLays', WHERE WHAT IT READS IS OF BULK AT MOST 1048576: true; the input reads as it did. -/
def grooveLaysUptoRow : OpenClaim := { program := "ytgahcipgglkkhaa", sum := "45127f73b6876552f47a389cf312be4bd08291f2cd4a07e33dc1f88f819f12d4", func := "kotatsu/kotatsulaw07.GrooveLays", spec := "grooveLays", unfollowed := true, recurses := true, apart := false, narrowed := true }
def GrooveLaysUptoSaid : Prop := grooveLaysUptoRow.holds Try.pinned (OpenSpec.upto grooveLaysSpec)

end Rows
end Go.Proofs.Ytgahcipgglkkhaa
