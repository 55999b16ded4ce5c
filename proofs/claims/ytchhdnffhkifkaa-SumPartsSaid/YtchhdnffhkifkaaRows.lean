/-
  No cell of these rows narrows 'for every input' (looked for: loops, veiled, ifaces, maps, wideKeys, modest, calm, conditions, laid).
  DERIVED. THE GIVEN ROWS OF THIS SEAT. 5 by the template 'for every input the law returns true; each argument reads behind the call as it read before'; 0 by the template 'total and deterministic' (their statements: YtchhdnffhkifkaaTotals.lean).
  GIVEN WITH THE SEED: the statements are not yours to turn. If you find one false, say at which input.
  Laid BY PROGRAM, IN A SANDBOX (cutbox-rows.mjs): the forced cells as the released guide's own fill.sh prints them over the translation 06a8c5c01003d73a… (all of the seat's roots in one cut). By AI agents, Wed Nov 11 2026. No macro, syntax, notation, axiom, sorry.
-/
import Derived.Test.YtchhdnffhkifkaaChecked
import GoSem.Claim
import GoSem.ClaimJoined
import GoSem.ClaimMapViews
import Derived.JoinedTies
import Derived.KernelRfl
namespace Go.Proofs.Ytchhdnffhkifkaa
/- THE CELL 'sum', in the pinned program and in every row, IS THE sha256 OF THE DUMP (.gsa) THAT YtchhdnffhkifkaaProg.lean LOADS. Nothing in Lean hashes anything: it is a label: what it is worth is what the hold of that sum in a sandbox is worth. -/
noncomputable def Try.pinned : Pinned := { name := "ytchhdnffhkifkaa", sum := "06a8c5c01003d73a329df9b3015a7fbbbdcb01046cabc52dd33fa36f92e2a035", checked := Try.checked }
namespace Rows
def none {H : Type} : Left H := { results := [], args := [] }

/-- 'cambiumlaw02.SumSums': WHATEVER THE INPUT: true; the input reads as it did. -/
def sumSumsSpec : ChangeSpec := { name := "sumSums", fn := fun _ => fun
  | [d] => { results := [.lit (.bool true)], args := [d] }
  | _ => none }
def sumSumsRow : OpenClaim := { program := "ytchhdnffhkifkaa", sum := "06a8c5c01003d73a329df9b3015a7fbbbdcb01046cabc52dd33fa36f92e2a035", func := "cambium/cambiumlaw02.SumSums", spec := "sumSums", apart := false }
def SumSumsSaid : Prop := sumSumsRow.holds Try.pinned (OpenSpec.ofChange sumSumsSpec)

/-- ITS FALSE NEIGHBOUR: 'it returns false'. Refute it at one input. -/
def sumSumsWrong : ChangeSpec := { name := "sumSums", fn := fun _ => fun
  | [d] => { results := [.lit (.bool false)], args := [d] }
  | _ => none }
def SumSumsWrongFalsely : Prop := sumSumsRow.holds Try.pinned (OpenSpec.ofChange sumSumsWrong)

/-- 'cambiumlaw02.SumMore': WHATEVER THE INPUT: true; the input reads as it did. -/
def sumMoreSpec : ChangeSpec := { name := "sumMore", fn := fun _ => fun
  | [d1, d2] => { results := [.lit (.bool true)], args := [d1, d2] }
  | _ => none }
def sumMoreRow : OpenClaim := { program := "ytchhdnffhkifkaa", sum := "06a8c5c01003d73a329df9b3015a7fbbbdcb01046cabc52dd33fa36f92e2a035", func := "cambium/cambiumlaw02.SumMore", spec := "sumMore", apart := false }
def SumMoreSaid : Prop := sumMoreRow.holds Try.pinned (OpenSpec.ofChange sumMoreSpec)

/-- ITS FALSE NEIGHBOUR: 'it returns false'. Refute it at one input. -/
def sumMoreWrong : ChangeSpec := { name := "sumMore", fn := fun _ => fun
  | [d1, d2] => { results := [.lit (.bool false)], args := [d1, d2] }
  | _ => none }
def SumMoreWrongFalsely : Prop := sumMoreRow.holds Try.pinned (OpenSpec.ofChange sumMoreWrong)

/-- 'cambiumlaw02.SumParts': WHATEVER THE INPUT: true; the input reads as it did. -/
def sumPartsSpec : ChangeSpec := { name := "sumParts", fn := fun _ => fun
  | [d] => { results := [.lit (.bool true)], args := [d] }
  | _ => none }
def sumPartsRow : OpenClaim := { program := "ytchhdnffhkifkaa", sum := "06a8c5c01003d73a329df9b3015a7fbbbdcb01046cabc52dd33fa36f92e2a035", func := "cambium/cambiumlaw02.SumParts", spec := "sumParts", apart := false }
def SumPartsSaid : Prop := sumPartsRow.holds Try.pinned (OpenSpec.ofChange sumPartsSpec)

/-- ITS FALSE NEIGHBOUR: 'it returns false'. Refute it at one input. -/
def sumPartsWrong : ChangeSpec := { name := "sumParts", fn := fun _ => fun
  | [d] => { results := [.lit (.bool false)], args := [d] }
  | _ => none }
def SumPartsWrongFalsely : Prop := sumPartsRow.holds Try.pinned (OpenSpec.ofChange sumPartsWrong)

/-- 'cambiumlaw02.SumTurned': WHATEVER THE INPUT: true; the input reads as it did. -/
def sumTurnedSpec : ChangeSpec := { name := "sumTurned", fn := fun _ => fun
  | [d1, d2, d3] => { results := [.lit (.bool true)], args := [d1, d2, d3] }
  | _ => none }
def sumTurnedRow : OpenClaim := { program := "ytchhdnffhkifkaa", sum := "06a8c5c01003d73a329df9b3015a7fbbbdcb01046cabc52dd33fa36f92e2a035", func := "cambium/cambiumlaw02.SumTurned", spec := "sumTurned", apart := false }
def SumTurnedSaid : Prop := sumTurnedRow.holds Try.pinned (OpenSpec.ofChange sumTurnedSpec)

/-- ITS FALSE NEIGHBOUR: 'it returns false'. Refute it at one input. -/
def sumTurnedWrong : ChangeSpec := { name := "sumTurned", fn := fun _ => fun
  | [d1, d2, d3] => { results := [.lit (.bool false)], args := [d1, d2, d3] }
  | _ => none }
def SumTurnedWrongFalsely : Prop := sumTurnedRow.holds Try.pinned (OpenSpec.ofChange sumTurnedWrong)

/-- 'cambiumlaw02.SumSteps': WHATEVER THE INPUT: true; the input reads as it did. -/
def sumStepsSpec : ChangeSpec := { name := "sumSteps", fn := fun _ => fun
  | [d1, d2, d3] => { results := [.lit (.bool true)], args := [d1, d2, d3] }
  | _ => none }
def sumStepsRow : OpenClaim := { program := "ytchhdnffhkifkaa", sum := "06a8c5c01003d73a329df9b3015a7fbbbdcb01046cabc52dd33fa36f92e2a035", func := "cambium/cambiumlaw02.SumSteps", spec := "sumSteps", apart := false }
def SumStepsSaid : Prop := sumStepsRow.holds Try.pinned (OpenSpec.ofChange sumStepsSpec)

/-- ITS FALSE NEIGHBOUR: 'it returns false'. Refute it at one input. -/
def sumStepsWrong : ChangeSpec := { name := "sumSteps", fn := fun _ => fun
  | [d1, d2, d3] => { results := [.lit (.bool false)], args := [d1, d2, d3] }
  | _ => none }
def SumStepsWrongFalsely : Prop := sumStepsRow.holds Try.pinned (OpenSpec.ofChange sumStepsWrong)

/- THE SECOND FORM. 'bulk': how many values and letters a reading holds, each counted each time it is reached (what is shared counts as often as it is met; a slice's spare places count too). A statement '..UptoSaid' is the law's where the arguments, and the package variables that the reading takes, are together of bulk at most 1048576: NARROWER than '..Said'. Prove '..Said' where nothing that the law and all that it calls make is longer than what came in: it says more and counts as full. Else prove '..UptoSaid'. A law counts once. -/
mutual
def uptoBulk {H : Type} : DataW H → Nat
  | .lit (.string bytes) => bytes.length + 1
  | .lit _ => 1
  | .nil => 1
  | .ptr d => uptoBulk d + 1
  | .slice elems spare => uptoBulkAll elems + uptoBulkAll spare + 1
  | .agg parts => uptoBulkAll parts + 1
  | .iface _ d => uptoBulk d + 1
  | .map entries => uptoBulkEntries entries + 1
  | .held _ => 1
def uptoBulkAll {H : Type} : List (DataW H) → Nat
  | [] => 0
  | d :: r => uptoBulk d + uptoBulkAll r
def uptoBulkEntries {H : Type} : List (Lit × DataW H) → Nat
  | [] => 0
  | x :: r => uptoBulkEntry x + uptoBulkEntries r
def uptoBulkEntry {H : Type} : Lit × DataW H → Nat
  | (.string bytes, d) => bytes.length + uptoBulk d + 1
  | (_, d) => uptoBulk d + 1
 end
def uptoSmall : (H : Type) → List (DataW H) → Bool := fun _ ds => decide (uptoBulkAll ds ≤ 1048576)
def OpenSpec.upto (s : _root_.Go.ChangeSpec) : _root_.Go.OpenSpec := { _root_.Go.OpenSpec.ofChange s with cond := some uptoSmall }

/-- 'cambiumlaw02.SumSums', WHERE WHAT IT READS IS OF BULK AT MOST 1048576: true; the input reads as it did. -/
def sumSumsUptoRow : OpenClaim := { program := "ytchhdnffhkifkaa", sum := "06a8c5c01003d73a329df9b3015a7fbbbdcb01046cabc52dd33fa36f92e2a035", func := "cambium/cambiumlaw02.SumSums", spec := "sumSums", apart := false, narrowed := true }
def SumSumsUptoSaid : Prop := sumSumsUptoRow.holds Try.pinned (OpenSpec.upto sumSumsSpec)

/-- 'cambiumlaw02.SumMore', WHERE WHAT IT READS IS OF BULK AT MOST 1048576: true; the input reads as it did. -/
def sumMoreUptoRow : OpenClaim := { program := "ytchhdnffhkifkaa", sum := "06a8c5c01003d73a329df9b3015a7fbbbdcb01046cabc52dd33fa36f92e2a035", func := "cambium/cambiumlaw02.SumMore", spec := "sumMore", apart := false, narrowed := true }
def SumMoreUptoSaid : Prop := sumMoreUptoRow.holds Try.pinned (OpenSpec.upto sumMoreSpec)

/-- 'cambiumlaw02.SumParts', WHERE WHAT IT READS IS OF BULK AT MOST 1048576: true; the input reads as it did. -/
def sumPartsUptoRow : OpenClaim := { program := "ytchhdnffhkifkaa", sum := "06a8c5c01003d73a329df9b3015a7fbbbdcb01046cabc52dd33fa36f92e2a035", func := "cambium/cambiumlaw02.SumParts", spec := "sumParts", apart := false, narrowed := true }
def SumPartsUptoSaid : Prop := sumPartsUptoRow.holds Try.pinned (OpenSpec.upto sumPartsSpec)

/-- 'cambiumlaw02.SumTurned', WHERE WHAT IT READS IS OF BULK AT MOST 1048576: true; the input reads as it did. -/
def sumTurnedUptoRow : OpenClaim := { program := "ytchhdnffhkifkaa", sum := "06a8c5c01003d73a329df9b3015a7fbbbdcb01046cabc52dd33fa36f92e2a035", func := "cambium/cambiumlaw02.SumTurned", spec := "sumTurned", apart := false, narrowed := true }
def SumTurnedUptoSaid : Prop := sumTurnedUptoRow.holds Try.pinned (OpenSpec.upto sumTurnedSpec)

/-- 'cambiumlaw02.SumSteps', WHERE WHAT IT READS IS OF BULK AT MOST 1048576: true; the input reads as it did. -/
def sumStepsUptoRow : OpenClaim := { program := "ytchhdnffhkifkaa", sum := "06a8c5c01003d73a329df9b3015a7fbbbdcb01046cabc52dd33fa36f92e2a035", func := "cambium/cambiumlaw02.SumSteps", spec := "sumSteps", apart := false, narrowed := true }
def SumStepsUptoSaid : Prop := sumStepsUptoRow.holds Try.pinned (OpenSpec.upto sumStepsSpec)

end Rows
end Go.Proofs.Ytchhdnffhkifkaa
