/-
  No cell of these rows narrows 'for every input' (looked for: loops, veiled, ifaces, maps, wideKeys, modest, calm, conditions, laid).
  DERIVED. THE GIVEN ROWS OF THIS SEAT. 6 by the template 'for every input the law returns true; each argument reads behind the call as it read before'; 0 by the template 'total and deterministic' (their statements: YtinoijjbkbmmdaaTotals.lean).
  GIVEN WITH THE SEED: the statements are not yours to turn. If you find one false, say at which input.
  Laid BY PROGRAM, IN A SANDBOX (cutbox-rows.mjs): the forced cells as the released guide's own fill.sh prints them over the translation 72a200323b0352c3… (all of the seat's roots in one cut). By AI agents, Wed Nov 11 2026. No macro, syntax, notation, axiom, sorry.
-/
import Derived.Test.YtinoijjbkbmmdaaChecked
import GoSem.Claim
import GoSem.ClaimJoined
import GoSem.ClaimMapViews
import Derived.JoinedTies
import Derived.KernelRfl
namespace Go.Proofs.Ytinoijjbkbmmdaa
/- THE CELL 'sum', in the pinned program and in every row, IS THE sha256 OF THE DUMP (.gsa) THAT YtinoijjbkbmmdaaProg.lean LOADS. Nothing in Lean hashes anything: it is a label: what it is worth is what the hold of that sum in a sandbox is worth. -/
noncomputable def Try.pinned : Pinned := { name := "ytinoijjbkbmmdaa", sum := "72a200323b0352c3c41ef20ebdfa1a71630056ceab8bb602d2e1d12d7900c5f7", checked := Try.checked }
namespace Rows
def none {H : Type} : Left H := { results := [], args := [] }

/-- 'kotatsulaw02.SealSums': WHATEVER THE INPUT: true; the input reads as it did. -/
def sealSumsSpec : ChangeSpec := { name := "sealSums", fn := fun _ => fun
  | [d1, d2, d3] => { results := [.lit (.bool true)], args := [d1, d2, d3] }
  | _ => none }
def sealSumsRow : OpenClaim := { program := "ytinoijjbkbmmdaa", sum := "72a200323b0352c3c41ef20ebdfa1a71630056ceab8bb602d2e1d12d7900c5f7", func := "kotatsu/kotatsulaw02.SealSums", spec := "sealSums", apart := false }
def SealSumsSaid : Prop := sealSumsRow.holds Try.pinned (OpenSpec.ofChange sealSumsSpec)

/-- ITS FALSE NEIGHBOUR: 'it returns false'. Refute it at one input. -/
def sealSumsWrong : ChangeSpec := { name := "sealSums", fn := fun _ => fun
  | [d1, d2, d3] => { results := [.lit (.bool false)], args := [d1, d2, d3] }
  | _ => none }
def SealSumsWrongFalsely : Prop := sealSumsRow.holds Try.pinned (OpenSpec.ofChange sealSumsWrong)

/-- 'kotatsulaw02.SealShorts': WHATEVER THE INPUT: true; the input reads as it did. -/
def sealShortsSpec : ChangeSpec := { name := "sealShorts", fn := fun _ => fun
  | [d] => { results := [.lit (.bool true)], args := [d] }
  | _ => none }
def sealShortsRow : OpenClaim := { program := "ytinoijjbkbmmdaa", sum := "72a200323b0352c3c41ef20ebdfa1a71630056ceab8bb602d2e1d12d7900c5f7", func := "kotatsu/kotatsulaw02.SealShorts", spec := "sealShorts", apart := false }
def SealShortsSaid : Prop := sealShortsRow.holds Try.pinned (OpenSpec.ofChange sealShortsSpec)

/-- ITS FALSE NEIGHBOUR: 'it returns false'. Refute it at one input. -/
def sealShortsWrong : ChangeSpec := { name := "sealShorts", fn := fun _ => fun
  | [d] => { results := [.lit (.bool false)], args := [d] }
  | _ => none }
def SealShortsWrongFalsely : Prop := sealShortsRow.holds Try.pinned (OpenSpec.ofChange sealShortsWrong)

/-- 'kotatsulaw02.SealFrames': WHATEVER THE INPUT: true; the input reads as it did. -/
def sealFramesSpec : ChangeSpec := { name := "sealFrames", fn := fun _ => fun
  | [d1, d2] => { results := [.lit (.bool true)], args := [d1, d2] }
  | _ => none }
def sealFramesRow : OpenClaim := { program := "ytinoijjbkbmmdaa", sum := "72a200323b0352c3c41ef20ebdfa1a71630056ceab8bb602d2e1d12d7900c5f7", func := "kotatsu/kotatsulaw02.SealFrames", spec := "sealFrames", inPlace := ["internal/bytealg.MakeNoZero"], apart := false }
def SealFramesSaid : Prop := sealFramesRow.holds Try.pinned (OpenSpec.ofChange sealFramesSpec)

/-- ITS FALSE NEIGHBOUR: 'it returns false'. Refute it at one input. -/
def sealFramesWrong : ChangeSpec := { name := "sealFrames", fn := fun _ => fun
  | [d1, d2] => { results := [.lit (.bool false)], args := [d1, d2] }
  | _ => none }
def SealFramesWrongFalsely : Prop := sealFramesRow.holds Try.pinned (OpenSpec.ofChange sealFramesWrong)

/-- 'kotatsulaw02.SealNexts': WHATEVER THE INPUT: true; the input reads as it did. -/
def sealNextsSpec : ChangeSpec := { name := "sealNexts", fn := fun _ => fun
  | [d] => { results := [.lit (.bool true)], args := [d] }
  | _ => none }
def sealNextsRow : OpenClaim := { program := "ytinoijjbkbmmdaa", sum := "72a200323b0352c3c41ef20ebdfa1a71630056ceab8bb602d2e1d12d7900c5f7", func := "kotatsu/kotatsulaw02.SealNexts", spec := "sealNexts", inPlace := ["internal/bytealg.MakeNoZero"], apart := false }
def SealNextsSaid : Prop := sealNextsRow.holds Try.pinned (OpenSpec.ofChange sealNextsSpec)

/-- ITS FALSE NEIGHBOUR: 'it returns false'. Refute it at one input. -/
def sealNextsWrong : ChangeSpec := { name := "sealNexts", fn := fun _ => fun
  | [d] => { results := [.lit (.bool false)], args := [d] }
  | _ => none }
def SealNextsWrongFalsely : Prop := sealNextsRow.holds Try.pinned (OpenSpec.ofChange sealNextsWrong)

/-- 'kotatsulaw02.SealCuts': WHATEVER THE INPUT: true; the input reads as it did. -/
def sealCutsSpec : ChangeSpec := { name := "sealCuts", fn := fun _ => fun
  | [d1, d2] => { results := [.lit (.bool true)], args := [d1, d2] }
  | _ => none }
def sealCutsRow : OpenClaim := { program := "ytinoijjbkbmmdaa", sum := "72a200323b0352c3c41ef20ebdfa1a71630056ceab8bb602d2e1d12d7900c5f7", func := "kotatsu/kotatsulaw02.SealCuts", spec := "sealCuts", inPlace := ["internal/bytealg.MakeNoZero"], apart := false }
def SealCutsSaid : Prop := sealCutsRow.holds Try.pinned (OpenSpec.ofChange sealCutsSpec)

/-- ITS FALSE NEIGHBOUR: 'it returns false'. Refute it at one input. -/
def sealCutsWrong : ChangeSpec := { name := "sealCuts", fn := fun _ => fun
  | [d1, d2] => { results := [.lit (.bool false)], args := [d1, d2] }
  | _ => none }
def SealCutsWrongFalsely : Prop := sealCutsRow.holds Try.pinned (OpenSpec.ofChange sealCutsWrong)

/-- 'kotatsulaw02.SealShows': WHATEVER THE INPUT: true; the input reads as it did. -/
def sealShowsSpec : ChangeSpec := { name := "sealShows", fn := fun _ => fun
  | [d1, d2, d3] => { results := [.lit (.bool true)], args := [d1, d2, d3] }
  | _ => none }
def sealShowsRow : OpenClaim := { program := "ytinoijjbkbmmdaa", sum := "72a200323b0352c3c41ef20ebdfa1a71630056ceab8bb602d2e1d12d7900c5f7", func := "kotatsu/kotatsulaw02.SealShows", spec := "sealShows", inPlace := ["internal/bytealg.MakeNoZero"], apart := false }
def SealShowsSaid : Prop := sealShowsRow.holds Try.pinned (OpenSpec.ofChange sealShowsSpec)

/-- ITS FALSE NEIGHBOUR: 'it returns false'. Refute it at one input. -/
def sealShowsWrong : ChangeSpec := { name := "sealShows", fn := fun _ => fun
  | [d1, d2, d3] => { results := [.lit (.bool false)], args := [d1, d2, d3] }
  | _ => none }
def SealShowsWrongFalsely : Prop := sealShowsRow.holds Try.pinned (OpenSpec.ofChange sealShowsWrong)

/- THE SECOND FORM. 'bulk': how many values and letters a reading holds, each counted each time it is reached (what is shared counts as often as it is met; a slice's spare places count too). A statement '..UptoSaid' is the law's where the arguments, and the package variables that the reading takes, are together of bulk at most 1048576: NARROWER than '..Said'. Prove '..Said' where nothing that the law and all that it calls make is longer than what came in: it says more and counts as full. Else prove '..UptoSaid'. A law counts once. -/
mutual
def uptoBulk {H : Type} : DataW H → Nat
  | .lit (.string bytes) => bytes.length + 1
  | .lit _ => 1
  | .nil => 1
  | .ptr d => uptoBulk d + 1
  | .slice elems spare => uptoBulkAll elems + uptoBulkAll spare + 1
  | .agg parts => uptoBulkAll parts + 1
  | .iface _ d => uptoBulk d + 1
  | .map entries => uptoBulkEntries entries + 1
  | .held _ => 1
def uptoBulkAll {H : Type} : List (DataW H) → Nat
  | [] => 0
  | d :: r => uptoBulk d + uptoBulkAll r
def uptoBulkEntries {H : Type} : List (Lit × DataW H) → Nat
  | [] => 0
  | x :: r => uptoBulkEntry x + uptoBulkEntries r
def uptoBulkEntry {H : Type} : Lit × DataW H → Nat
  | (.string bytes, d) => bytes.length + uptoBulk d + 1
  | (_, d) => uptoBulk d + 1
 end
def uptoSmall : (H : Type) → List (DataW H) → Bool := fun _ ds => decide (uptoBulkAll ds ≤ 1048576)
def OpenSpec.upto (s : _root_.Go.ChangeSpec) : _root_.Go.OpenSpec := { _root_.Go.OpenSpec.ofChange s with cond := some uptoSmall }

/-- 'kotatsulaw02.SealSums', WHERE WHAT IT READS IS OF BULK AT MOST 1048576: true; the input reads as it did. -/
def sealSumsUptoRow : OpenClaim := { program := "ytinoijjbkbmmdaa", sum := "72a200323b0352c3c41ef20ebdfa1a71630056ceab8bb602d2e1d12d7900c5f7", func := "kotatsu/kotatsulaw02.SealSums", spec := "sealSums", apart := false, narrowed := true }
def SealSumsUptoSaid : Prop := sealSumsUptoRow.holds Try.pinned (OpenSpec.upto sealSumsSpec)

/-- 'kotatsulaw02.SealShorts', WHERE WHAT IT READS IS OF BULK AT MOST 1048576: true; the input reads as it did. -/
def sealShortsUptoRow : OpenClaim := { program := "ytinoijjbkbmmdaa", sum := "72a200323b0352c3c41ef20ebdfa1a71630056ceab8bb602d2e1d12d7900c5f7", func := "kotatsu/kotatsulaw02.SealShorts", spec := "sealShorts", apart := false, narrowed := true }
def SealShortsUptoSaid : Prop := sealShortsUptoRow.holds Try.pinned (OpenSpec.upto sealShortsSpec)

/-- 'kotatsulaw02.SealFrames', WHERE WHAT IT READS IS OF BULK AT MOST 1048576: true; the input reads as it did. -/
def sealFramesUptoRow : OpenClaim := { program := "ytinoijjbkbmmdaa", sum := "72a200323b0352c3c41ef20ebdfa1a71630056ceab8bb602d2e1d12d7900c5f7", func := "kotatsu/kotatsulaw02.SealFrames", spec := "sealFrames", inPlace := ["internal/bytealg.MakeNoZero"], apart := false, narrowed := true }
def SealFramesUptoSaid : Prop := sealFramesUptoRow.holds Try.pinned (OpenSpec.upto sealFramesSpec)

/-- 'kotatsulaw02.SealNexts', WHERE WHAT IT READS IS OF BULK AT MOST 1048576: true; the input reads as it did. -/
def sealNextsUptoRow : OpenClaim := { program := "ytinoijjbkbmmdaa", sum := "72a200323b0352c3c41ef20ebdfa1a71630056ceab8bb602d2e1d12d7900c5f7", func := "kotatsu/kotatsulaw02.SealNexts", spec := "sealNexts", inPlace := ["internal/bytealg.MakeNoZero"], apart := false, narrowed := true }
def SealNextsUptoSaid : Prop := sealNextsUptoRow.holds Try.pinned (OpenSpec.upto sealNextsSpec)

/-- 'kotatsulaw02.SealCuts', WHERE WHAT IT READS IS OF BULK AT MOST 1048576: true; the input reads as it did. -/
def sealCutsUptoRow : OpenClaim := { program := "ytinoijjbkbmmdaa", sum := "72a200323b0352c3c41ef20ebdfa1a71630056ceab8bb602d2e1d12d7900c5f7", func := "kotatsu/kotatsulaw02.SealCuts", spec := "sealCuts", inPlace := ["internal/bytealg.MakeNoZero"], apart := false, narrowed := true }
def SealCutsUptoSaid : Prop := sealCutsUptoRow.holds Try.pinned (OpenSpec.upto sealCutsSpec)

/-- 'kotatsulaw02.SealShows', WHERE WHAT IT READS IS OF BULK AT MOST 1048576: true; the input reads as it did. -/
def sealShowsUptoRow : OpenClaim := { program := "ytinoijjbkbmmdaa", sum := "72a200323b0352c3c41ef20ebdfa1a71630056ceab8bb602d2e1d12d7900c5f7", func := "kotatsu/kotatsulaw02.SealShows", spec := "sealShows", inPlace := ["internal/bytealg.MakeNoZero"], apart := false, narrowed := true }
def SealShowsUptoSaid : Prop := sealShowsUptoRow.holds Try.pinned (OpenSpec.upto sealShowsSpec)

end Rows
end Go.Proofs.Ytinoijjbkbmmdaa
