/-
  No cell of these rows narrows 'for every input' (looked for: loops, veiled, ifaces, maps, wideKeys, modest, calm, conditions, laid).
  DERIVED. THE GIVEN ROWS OF THIS SEAT. 5 by the template 'for every input the law returns true; each argument reads behind the call as it read before'; 0 by the template 'total and deterministic' (their statements: YtgpgoffnfdjhcaaTotals.lean).
  GIVEN WITH THE SEED: the statements are not yours to turn. If you find one false, say at which input.
  Laid BY PROGRAM, IN A SANDBOX (cutbox-rows.mjs): the forced cells as the released guide's own fill.sh prints them over the translation 2481c6be4ade3e62… (all of the seat's roots in one cut). By AI agents, Wed Nov 11 2026. No macro, syntax, notation, axiom, sorry.
-/
import Derived.Test.YtgpgoffnfdjhcaaChecked
import GoSem.Claim
import GoSem.ClaimJoined
import GoSem.ClaimMapViews
import Derived.JoinedTies
import Derived.KernelRfl
namespace Go.Proofs.Ytgpgoffnfdjhcaa
/- THE CELL 'sum', in the pinned program and in every row, IS THE sha256 OF THE DUMP (.gsa) THAT YtgpgoffnfdjhcaaProg.lean LOADS. Nothing in Lean hashes anything: it is a label: what it is worth is what the hold of that sum in a sandbox is worth. -/
noncomputable def Try.pinned : Pinned := { name := "ytgpgoffnfdjhcaa", sum := "2481c6be4ade3e62aac6f2c8ca0e9b7980736e9409e2c6784c7b0487f873330b", checked := Try.checked }
namespace Rows
def none {H : Type} : Left H := { results := [], args := [] }

/-- 'kotatsulaw05.BlockParses': WHATEVER THE INPUT: true; the input reads as it did. -/
def blockParsesSpec : ChangeSpec := { name := "blockParses", fn := fun _ => fun
  | [d1, d2] => { results := [.lit (.bool true)], args := [d1, d2] }
  | _ => none }
def blockParsesRow : OpenClaim := { program := "ytgpgoffnfdjhcaa", sum := "2481c6be4ade3e62aac6f2c8ca0e9b7980736e9409e2c6784c7b0487f873330b", func := "kotatsu/kotatsulaw05.BlockParses", spec := "blockParses", apart := false }
def BlockParsesSaid : Prop := blockParsesRow.holds Try.pinned (OpenSpec.ofChange blockParsesSpec)

/-- ITS FALSE NEIGHBOUR: 'it returns false'. Refute it at one input. -/
def blockParsesWrong : ChangeSpec := { name := "blockParses", fn := fun _ => fun
  | [d1, d2] => { results := [.lit (.bool false)], args := [d1, d2] }
  | _ => none }
def BlockParsesWrongFalsely : Prop := blockParsesRow.holds Try.pinned (OpenSpec.ofChange blockParsesWrong)

/-- 'kotatsulaw05.BlockWants': WHATEVER THE INPUT: true; the input reads as it did. -/
def blockWantsSpec : ChangeSpec := { name := "blockWants", fn := fun _ => fun
  | [d1, d2, d3, d4] => { results := [.lit (.bool true)], args := [d1, d2, d3, d4] }
  | _ => none }
def blockWantsRow : OpenClaim := { program := "ytgpgoffnfdjhcaa", sum := "2481c6be4ade3e62aac6f2c8ca0e9b7980736e9409e2c6784c7b0487f873330b", func := "kotatsu/kotatsulaw05.BlockWants", spec := "blockWants", apart := false }
def BlockWantsSaid : Prop := blockWantsRow.holds Try.pinned (OpenSpec.ofChange blockWantsSpec)

/-- ITS FALSE NEIGHBOUR: 'it returns false'. Refute it at one input. -/
def blockWantsWrong : ChangeSpec := { name := "blockWants", fn := fun _ => fun
  | [d1, d2, d3, d4] => { results := [.lit (.bool false)], args := [d1, d2, d3, d4] }
  | _ => none }
def BlockWantsWrongFalsely : Prop := blockWantsRow.holds Try.pinned (OpenSpec.ofChange blockWantsWrong)

/-- 'kotatsulaw05.BlockFiles': WHATEVER THE INPUT: true; the input reads as it did. -/
def blockFilesSpec : ChangeSpec := { name := "blockFiles", fn := fun _ => fun
  | [d1, d2, d3] => { results := [.lit (.bool true)], args := [d1, d2, d3] }
  | _ => none }
def blockFilesRow : OpenClaim := { program := "ytgpgoffnfdjhcaa", sum := "2481c6be4ade3e62aac6f2c8ca0e9b7980736e9409e2c6784c7b0487f873330b", func := "kotatsu/kotatsulaw05.BlockFiles", spec := "blockFiles", unfollowed := true, recurses := true, apart := false }
def BlockFilesSaid : Prop := blockFilesRow.holds Try.pinned (OpenSpec.ofChange blockFilesSpec)

/-- ITS FALSE NEIGHBOUR: 'it returns false'. Refute it at one input. -/
def blockFilesWrong : ChangeSpec := { name := "blockFiles", fn := fun _ => fun
  | [d1, d2, d3] => { results := [.lit (.bool false)], args := [d1, d2, d3] }
  | _ => none }
def BlockFilesWrongFalsely : Prop := blockFilesRow.holds Try.pinned (OpenSpec.ofChange blockFilesWrong)

/-- 'kotatsulaw05.BlockMany': WHATEVER THE INPUT: true; the input reads as it did. -/
def blockManySpec : ChangeSpec := { name := "blockMany", fn := fun _ => fun
  | [d] => { results := [.lit (.bool true)], args := [d] }
  | _ => none }
def blockManyRow : OpenClaim := { program := "ytgpgoffnfdjhcaa", sum := "2481c6be4ade3e62aac6f2c8ca0e9b7980736e9409e2c6784c7b0487f873330b", func := "kotatsu/kotatsulaw05.BlockMany", spec := "blockMany", apart := false }
def BlockManySaid : Prop := blockManyRow.holds Try.pinned (OpenSpec.ofChange blockManySpec)

/-- ITS FALSE NEIGHBOUR: 'it returns false'. Refute it at one input. -/
def blockManyWrong : ChangeSpec := { name := "blockMany", fn := fun _ => fun
  | [d] => { results := [.lit (.bool false)], args := [d] }
  | _ => none }
def BlockManyWrongFalsely : Prop := blockManyRow.holds Try.pinned (OpenSpec.ofChange blockManyWrong)

/-- 'kotatsulaw05.BlockSides': WHATEVER THE INPUT: true; the input reads as it did. -/
def blockSidesSpec : ChangeSpec := { name := "blockSides", fn := fun _ => fun
  | [d1, d2, d3, d4, d5, d6] => { results := [.lit (.bool true)], args := [d1, d2, d3, d4, d5, d6] }
  | _ => none }
def blockSidesRow : OpenClaim := { program := "ytgpgoffnfdjhcaa", sum := "2481c6be4ade3e62aac6f2c8ca0e9b7980736e9409e2c6784c7b0487f873330b", func := "kotatsu/kotatsulaw05.BlockSides", spec := "blockSides", unfollowed := true, recurses := true, apart := false }
def BlockSidesSaid : Prop := blockSidesRow.holds Try.pinned (OpenSpec.ofChange blockSidesSpec)

/-- ITS FALSE NEIGHBOUR: 'it returns false'. Refute it at one input. -/
def blockSidesWrong : ChangeSpec := { name := "blockSides", fn := fun _ => fun
  | [d1, d2, d3, d4, d5, d6] => { results := [.lit (.bool false)], args := [d1, d2, d3, d4, d5, d6] }
  | _ => none }
def BlockSidesWrongFalsely : Prop := blockSidesRow.holds Try.pinned (OpenSpec.ofChange blockSidesWrong)

/- THE SECOND FORM. 'bulk': how many values and letters a reading holds, each counted each time it is reached (what is shared counts as often as it is met; a slice's spare places count too). A statement '..UptoSaid' is the law's where the arguments, and the package variables that the reading takes, are together of bulk at most 1048576: NARROWER than '..Said'. Prove '..Said' where nothing that the law and all that it calls make is longer than what came in: it says more and counts as full. Else prove '..UptoSaid'. A law counts once. -/
mutual
def uptoBulk {H : Type} : DataW H → Nat
  | .lit (.string bytes) => bytes.length + 1
  | .lit _ => 1
  | .nil => 1
  | .ptr d => uptoBulk d + 1
  | .slice elems spare => uptoBulkAll elems + uptoBulkAll spare + 1
  | .agg parts => uptoBulkAll parts + 1
  | .iface _ d => uptoBulk d + 1
  | .map entries => uptoBulkEntries entries + 1
  | .held _ => 1
def uptoBulkAll {H : Type} : List (DataW H) → Nat
  | [] => 0
  | d :: r => uptoBulk d + uptoBulkAll r
def uptoBulkEntries {H : Type} : List (Lit × DataW H) → Nat
  | [] => 0
  | x :: r => uptoBulkEntry x + uptoBulkEntries r
def uptoBulkEntry {H : Type} : Lit × DataW H → Nat
  | (.string bytes, d) => bytes.length + uptoBulk d + 1
  | (_, d) => uptoBulk d + 1
 end
def uptoSmall : (H : Type) → List (DataW H) → Bool := fun _ ds => decide (uptoBulkAll ds ≤ 1048576)
def OpenSpec.upto (s : _root_.Go.ChangeSpec) : _root_.Go.OpenSpec := { _root_.Go.OpenSpec.ofChange s with cond := some uptoSmall }

/-- 'kotatsulaw05.BlockParses', WHERE WHAT IT READS IS OF BULK AT MOST 1048576: true; the input reads as it did. -/
def blockParsesUptoRow : OpenClaim := { program := "ytgpgoffnfdjhcaa", sum := "2481c6be4ade3e62aac6f2c8ca0e9b7980736e9409e2c6784c7b0487f873330b", func := "kotatsu/kotatsulaw05.BlockParses", spec := "blockParses", apart := false, narrowed := true }
def BlockParsesUptoSaid : Prop := blockParsesUptoRow.holds Try.pinned (OpenSpec.upto blockParsesSpec)

/-- 'kotatsulaw05.BlockWants', WHERE WHAT IT READS IS OF BULK AT MOST 1048576: true; the input reads as it did. -/
def blockWantsUptoRow : OpenClaim := { program := "ytgpgoffnfdjhcaa", sum := "2481c6be4ade3e62aac6f2c8ca0e9b7980736e9409e2c6784c7b0487f873330b", func := "kotatsu/kotatsulaw05.BlockWants", spec := "blockWants", apart := false, narrowed := true }
def BlockWantsUptoSaid : Prop := blockWantsUptoRow.holds Try.pinned (OpenSpec.upto blockWantsSpec)

/-- 'kotatsulaw05.BlockFiles', WHERE WHAT IT READS IS OF BULK AT MOST 1048576: true; the input reads as it did. -/
def blockFilesUptoRow : OpenClaim := { program := "ytgpgoffnfdjhcaa", sum := "2481c6be4ade3e62aac6f2c8ca0e9b7980736e9409e2c6784c7b0487f873330b", func := "kotatsu/kotatsulaw05.BlockFiles", spec := "blockFiles", unfollowed := true, recurses := true, apart := false, narrowed := true }
def BlockFilesUptoSaid : Prop := blockFilesUptoRow.holds Try.pinned (OpenSpec.upto blockFilesSpec)

/-- 'kotatsulaw05.BlockMany', WHERE WHAT IT READS IS OF BULK AT MOST 1048576: true; the input reads as it did. -/
def blockManyUptoRow : OpenClaim := { program := "ytgpgoffnfdjhcaa", sum := "2481c6be4ade3e62aac6f2c8ca0e9b7980736e9409e2c6784c7b0487f873330b", func := "kotatsu/kotatsulaw05.BlockMany", spec := "blockMany", apart := false, narrowed := true }
def BlockManyUptoSaid : Prop := blockManyUptoRow.holds Try.pinned (OpenSpec.upto blockManySpec)

/-- 'kotatsulaw05.BlockSides', WHERE WHAT IT READS IS OF BULK AT MOST 1048576: true; the input reads as it did. -/
def blockSidesUptoRow : OpenClaim := { program := "ytgpgoffnfdjhcaa", sum := "2481c6be4ade3e62aac6f2c8ca0e9b7980736e9409e2c6784c7b0487f873330b", func := "kotatsu/kotatsulaw05.BlockSides", spec := "blockSides", unfollowed := true, recurses := true, apart := false, narrowed := true }
def BlockSidesUptoSaid : Prop := blockSidesUptoRow.holds Try.pinned (OpenSpec.upto blockSidesSpec)

end Rows
end Go.Proofs.Ytgpgoffnfdjhcaa
