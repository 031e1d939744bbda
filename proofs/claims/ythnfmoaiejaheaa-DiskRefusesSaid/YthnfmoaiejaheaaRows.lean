/-
  No cell of these rows narrows 'for every input' (looked for: loops, veiled, ifaces, maps, wideKeys, modest, calm, conditions, laid).
  DERIVED. THE GIVEN ROWS OF THIS SEAT. 6 by the template 'for every input the law returns true; each argument reads behind the call as it read before'; 0 by the template 'total and deterministic' (their statements: YthnfmoaiejaheaaTotals.lean).
  GIVEN WITH THE SEED: the statements are not yours to turn. If you find one false, say at which input.
  Laid BY PROGRAM, IN A SANDBOX (cutbox-rows.mjs): the forced cells as the released guide's own fill.sh prints them over the translation 53a8cfe3522cf8fe… (all of the seat's roots in one cut). By AI agents, Wed Nov 11 2026. No macro, syntax, notation, axiom, sorry.
-/
import Derived.Test.YthnfmoaiejaheaaChecked
import GoSem.Claim
import GoSem.ClaimJoined
import GoSem.ClaimMapViews
import Derived.JoinedTies
import Derived.KernelRfl
namespace Go.Proofs.Ythnfmoaiejaheaa
/- THE CELL 'sum', in the pinned program and in every row, IS THE sha256 OF THE DUMP (.gsa) THAT YthnfmoaiejaheaaProg.lean LOADS. Nothing in Lean hashes anything: it is a label: what it is worth is what the hold of that sum in a sandbox is worth. -/
noncomputable def Try.pinned : Pinned := { name := "ythnfmoaiejaheaa", sum := "53a8cfe3522cf8fee3555d348eab3a271347c6d62cf7d9c69c62d27040da9245", checked := Try.checked }
namespace Rows
def none {H : Type} : Left H := { results := [], args := [] }

/-- 'kotatsulaw06.DiskParses': WHATEVER THE INPUT: true; the input reads as it did. -/
def diskParsesSpec : ChangeSpec := { name := "diskParses", fn := fun _ => fun
  | [d1, d2, d3] => { results := [.lit (.bool true)], args := [d1, d2, d3] }
  | _ => none }
def diskParsesRow : OpenClaim := { program := "ythnfmoaiejaheaa", sum := "53a8cfe3522cf8fee3555d348eab3a271347c6d62cf7d9c69c62d27040da9245", func := "kotatsu/kotatsulaw06.DiskParses", spec := "diskParses", unfollowed := true, recurses := true, apart := false }
def DiskParsesSaid : Prop := diskParsesRow.holds Try.pinned (OpenSpec.ofChange diskParsesSpec)

/-- ITS FALSE NEIGHBOUR: 'it returns false'. Refute it at one input. -/
def diskParsesWrong : ChangeSpec := { name := "diskParses", fn := fun _ => fun
  | [d1, d2, d3] => { results := [.lit (.bool false)], args := [d1, d2, d3] }
  | _ => none }
def DiskParsesWrongFalsely : Prop := diskParsesRow.holds Try.pinned (OpenSpec.ofChange diskParsesWrong)

/-- 'kotatsulaw06.DiskForms': WHATEVER THE INPUT: true; the input reads as it did. -/
def diskFormsSpec : ChangeSpec := { name := "diskForms", fn := fun _ => fun
  | [d1, d2, d3, d4] => { results := [.lit (.bool true)], args := [d1, d2, d3, d4] }
  | _ => none }
def diskFormsRow : OpenClaim := { program := "ythnfmoaiejaheaa", sum := "53a8cfe3522cf8fee3555d348eab3a271347c6d62cf7d9c69c62d27040da9245", func := "kotatsu/kotatsulaw06.DiskForms", spec := "diskForms", unfollowed := true, recurses := true, apart := false }
def DiskFormsSaid : Prop := diskFormsRow.holds Try.pinned (OpenSpec.ofChange diskFormsSpec)

/-- ITS FALSE NEIGHBOUR: 'it returns false'. Refute it at one input. -/
def diskFormsWrong : ChangeSpec := { name := "diskForms", fn := fun _ => fun
  | [d1, d2, d3, d4] => { results := [.lit (.bool false)], args := [d1, d2, d3, d4] }
  | _ => none }
def DiskFormsWrongFalsely : Prop := diskFormsRow.holds Try.pinned (OpenSpec.ofChange diskFormsWrong)

/-- 'kotatsulaw06.DiskUnwraps': WHATEVER THE INPUT: true; the input reads as it did. -/
def diskUnwrapsSpec : ChangeSpec := { name := "diskUnwraps", fn := fun _ => fun
  | [d1, d2] => { results := [.lit (.bool true)], args := [d1, d2] }
  | _ => none }
def diskUnwrapsRow : OpenClaim := { program := "ythnfmoaiejaheaa", sum := "53a8cfe3522cf8fee3555d348eab3a271347c6d62cf7d9c69c62d27040da9245", func := "kotatsu/kotatsulaw06.DiskUnwraps", spec := "diskUnwraps", unfollowed := true, recurses := true, apart := false }
def DiskUnwrapsSaid : Prop := diskUnwrapsRow.holds Try.pinned (OpenSpec.ofChange diskUnwrapsSpec)

/-- ITS FALSE NEIGHBOUR: 'it returns false'. Refute it at one input. -/
def diskUnwrapsWrong : ChangeSpec := { name := "diskUnwraps", fn := fun _ => fun
  | [d1, d2] => { results := [.lit (.bool false)], args := [d1, d2] }
  | _ => none }
def DiskUnwrapsWrongFalsely : Prop := diskUnwrapsRow.holds Try.pinned (OpenSpec.ofChange diskUnwrapsWrong)

/-- 'kotatsulaw06.DiskWraps': WHATEVER THE INPUT: true; the input reads as it did. -/
def diskWrapsSpec : ChangeSpec := { name := "diskWraps", fn := fun _ => fun
  | [d1, d2, d3, d4] => { results := [.lit (.bool true)], args := [d1, d2, d3, d4] }
  | _ => none }
def diskWrapsRow : OpenClaim := { program := "ythnfmoaiejaheaa", sum := "53a8cfe3522cf8fee3555d348eab3a271347c6d62cf7d9c69c62d27040da9245", func := "kotatsu/kotatsulaw06.DiskWraps", spec := "diskWraps", unfollowed := true, recurses := true, apart := false }
def DiskWrapsSaid : Prop := diskWrapsRow.holds Try.pinned (OpenSpec.ofChange diskWrapsSpec)

/-- ITS FALSE NEIGHBOUR: 'it returns false'. Refute it at one input. -/
def diskWrapsWrong : ChangeSpec := { name := "diskWraps", fn := fun _ => fun
  | [d1, d2, d3, d4] => { results := [.lit (.bool false)], args := [d1, d2, d3, d4] }
  | _ => none }
def DiskWrapsWrongFalsely : Prop := diskWrapsRow.holds Try.pinned (OpenSpec.ofChange diskWrapsWrong)

/-- 'kotatsulaw06.DiskRefuses': WHATEVER THE INPUT: true; the input reads as it did. -/
def diskRefusesSpec : ChangeSpec := { name := "diskRefuses", fn := fun _ => fun
  | [d1, d2, d3] => { results := [.lit (.bool true)], args := [d1, d2, d3] }
  | _ => none }
def diskRefusesRow : OpenClaim := { program := "ythnfmoaiejaheaa", sum := "53a8cfe3522cf8fee3555d348eab3a271347c6d62cf7d9c69c62d27040da9245", func := "kotatsu/kotatsulaw06.DiskRefuses", spec := "diskRefuses", unfollowed := true, recurses := true, apart := false }
def DiskRefusesSaid : Prop := diskRefusesRow.holds Try.pinned (OpenSpec.ofChange diskRefusesSpec)

/-- ITS FALSE NEIGHBOUR: 'it returns false'. Refute it at one input. -/
def diskRefusesWrong : ChangeSpec := { name := "diskRefuses", fn := fun _ => fun
  | [d1, d2, d3] => { results := [.lit (.bool false)], args := [d1, d2, d3] }
  | _ => none }
def DiskRefusesWrongFalsely : Prop := diskRefusesRow.holds Try.pinned (OpenSpec.ofChange diskRefusesWrong)

/-- 'kotatsulaw06.DiskTos': WHATEVER THE INPUT: true; the input reads as it did. -/
def diskTosSpec : ChangeSpec := { name := "diskTos", fn := fun _ => fun
  | [d1, d2, d3, d4] => { results := [.lit (.bool true)], args := [d1, d2, d3, d4] }
  | _ => none }
def diskTosRow : OpenClaim := { program := "ythnfmoaiejaheaa", sum := "53a8cfe3522cf8fee3555d348eab3a271347c6d62cf7d9c69c62d27040da9245", func := "kotatsu/kotatsulaw06.DiskTos", spec := "diskTos", unfollowed := true, recurses := true, apart := false }
def DiskTosSaid : Prop := diskTosRow.holds Try.pinned (OpenSpec.ofChange diskTosSpec)

/-- ITS FALSE NEIGHBOUR: 'it returns false'. Refute it at one input. -/
def diskTosWrong : ChangeSpec := { name := "diskTos", fn := fun _ => fun
  | [d1, d2, d3, d4] => { results := [.lit (.bool false)], args := [d1, d2, d3, d4] }
  | _ => none }
def DiskTosWrongFalsely : Prop := diskTosRow.holds Try.pinned (OpenSpec.ofChange diskTosWrong)

/- THE SECOND FORM. 'bulk': how many values and letters a reading holds, each counted each time it is reached (what is shared counts as often as it is met; a slice's spare places count too). A statement '..UptoSaid' is the law's where the arguments, and the package variables that the reading takes, are together of bulk at most 1048576: NARROWER than '..Said'. Prove '..Said' where nothing that the law and all that it calls make is longer than what came in: it says more and counts as full. Else prove '..UptoSaid'. A law counts once. -/
mutual
def uptoBulk {H : Type} : DataW H → Nat
  | .lit (.string bytes) => bytes.length + 1
  | .lit _ => 1
  | .nil => 1
  | .ptr d => uptoBulk d + 1
  | .slice elems spare => uptoBulkAll elems + uptoBulkAll spare + 1
  | .agg parts => uptoBulkAll parts + 1
  | .iface _ d => uptoBulk d + 1
  | .map entries => uptoBulkEntries entries + 1
  | .held _ => 1
def uptoBulkAll {H : Type} : List (DataW H) → Nat
  | [] => 0
  | d :: r => uptoBulk d + uptoBulkAll r
def uptoBulkEntries {H : Type} : List (Lit × DataW H) → Nat
  | [] => 0
  | x :: r => uptoBulkEntry x + uptoBulkEntries r
def uptoBulkEntry {H : Type} : Lit × DataW H → Nat
  | (.string bytes, d) => bytes.length + uptoBulk d + 1
  | (_, d) => uptoBulk d + 1
 end
def uptoSmall : (H : Type) → List (DataW H) → Bool := fun _ ds => decide (uptoBulkAll ds ≤ 1048576)
def OpenSpec.upto (s : _root_.Go.ChangeSpec) : _root_.Go.OpenSpec := { _root_.Go.OpenSpec.ofChange s with cond := some uptoSmall }

/-- 'kotatsulaw06.DiskParses', WHERE WHAT IT READS IS OF BULK AT MOST 1048576: true; the input reads as it did. -/
def diskParsesUptoRow : OpenClaim := { program := "ythnfmoaiejaheaa", sum := "53a8cfe3522cf8fee3555d348eab3a271347c6d62cf7d9c69c62d27040da9245", func := "kotatsu/kotatsulaw06.DiskParses", spec := "diskParses", unfollowed := true, recurses := true, apart := false, narrowed := true }
def DiskParsesUptoSaid : Prop := diskParsesUptoRow.holds Try.pinned (OpenSpec.upto diskParsesSpec)

/-- 'kotatsulaw06.DiskForms', WHERE WHAT IT READS IS OF BULK AT MOST 1048576: true; the input reads as it did. -/
def diskFormsUptoRow : OpenClaim := { program := "ythnfmoaiejaheaa", sum := "53a8cfe3522cf8fee3555d348eab3a271347c6d62cf7d9c69c62d27040da9245", func := "kotatsu/kotatsulaw06.DiskForms", spec := "diskForms", unfollowed := true, recurses := true, apart := false, narrowed := true }
def DiskFormsUptoSaid : Prop := diskFormsUptoRow.holds Try.pinned (OpenSpec.upto diskFormsSpec)

/-- 'kotatsulaw06.DiskUnwraps', WHERE WHAT IT READS IS OF BULK AT MOST 1048576: true; the input reads as it did. -/
def diskUnwrapsUptoRow : OpenClaim := { program := "ythnfmoaiejaheaa", sum := "53a8cfe3522cf8fee3555d348eab3a271347c6d62cf7d9c69c62d27040da9245", func := "kotatsu/kotatsulaw06.DiskUnwraps", spec := "diskUnwraps", unfollowed := true, recurses := true, apart := false, narrowed := true }
def DiskUnwrapsUptoSaid : Prop := diskUnwrapsUptoRow.holds Try.pinned (OpenSpec.upto diskUnwrapsSpec)

/-- 'kotatsulaw06.DiskWraps', WHERE WHAT IT READS IS OF BULK AT MOST 1048576: true; the input reads as it did. -/
def diskWrapsUptoRow : OpenClaim := { program := "ythnfmoaiejaheaa", sum := "53a8cfe3522cf8fee3555d348eab3a271347c6d62cf7d9c69c62d27040da9245", func := "kotatsu/kotatsulaw06.DiskWraps", spec := "diskWraps", unfollowed := true, recurses := true, apart := false, narrowed := true }
def DiskWrapsUptoSaid : Prop := diskWrapsUptoRow.holds Try.pinned (OpenSpec.upto diskWrapsSpec)

/-- 'kotatsulaw06.DiskRefuses', WHERE WHAT IT READS IS OF BULK AT MOST 1048576: true; the input reads as it did. -/
def diskRefusesUptoRow : OpenClaim := { program := "ythnfmoaiejaheaa", sum := "53a8cfe3522cf8fee3555d348eab3a271347c6d62cf7d9c69c62d27040da9245", func := "kotatsu/kotatsulaw06.DiskRefuses", spec := "diskRefuses", unfollowed := true, recurses := true, apart := false, narrowed := true }
def DiskRefusesUptoSaid : Prop := diskRefusesUptoRow.holds Try.pinned (OpenSpec.upto diskRefusesSpec)

/-- 'kotatsulaw06.DiskTos', WHERE WHAT IT READS IS OF BULK AT MOST 1048576: true; the input reads as it did. -/
def diskTosUptoRow : OpenClaim := { program := "ythnfmoaiejaheaa", sum := "53a8cfe3522cf8fee3555d348eab3a271347c6d62cf7d9c69c62d27040da9245", func := "kotatsu/kotatsulaw06.DiskTos", spec := "diskTos", unfollowed := true, recurses := true, apart := false, narrowed := true }
def DiskTosUptoSaid : Prop := diskTosUptoRow.holds Try.pinned (OpenSpec.upto diskTosSpec)

end Rows
end Go.Proofs.Ythnfmoaiejaheaa
