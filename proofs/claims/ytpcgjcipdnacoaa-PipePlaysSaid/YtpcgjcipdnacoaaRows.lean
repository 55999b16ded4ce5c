/-
  No cell of these rows narrows 'for every input' (looked for: loops, veiled, ifaces, maps, wideKeys, modest, calm, conditions, laid).
  DERIVED. THE GIVEN ROWS OF THIS SEAT. 3 by the template 'for every input the law returns true; each argument reads behind the call as it read before'; 0 by the template 'total and deterministic' (their statements: YtpcgjcipdnacoaaTotals.lean).
  GIVEN WITH THE SEED: the statements are not yours to turn. If you find one false, say at which input.
  Laid BY PROGRAM, IN A SANDBOX (cutbox-rows.mjs): the forced cells as the released guide's own fill.sh prints them over the translation d3cee242ba29d987… (all of the seat's roots in one cut). By AI agents, Wed Nov 11 2026. No macro, syntax, notation, axiom, sorry.
-/
import Derived.Test.YtpcgjcipdnacoaaChecked
import GoSem.Claim
import GoSem.ClaimJoined
import GoSem.ClaimMapViews
import Derived.JoinedTies
import Derived.KernelRfl
namespace Go.Proofs.Ytpcgjcipdnacoaa
/- THE CELL 'sum', in the pinned program and in every row, IS THE sha256 OF THE DUMP (.gsa) THAT YtpcgjcipdnacoaaProg.lean LOADS. Nothing in Lean hashes anything: it is a label: what it is worth is what the hold of that sum in a sandbox is worth. -/
noncomputable def Try.pinned : Pinned := { name := "ytpcgjcipdnacoaa", sum := "d3cee242ba29d9879f609b9ecb396a6fd2096645cbef56780596f476e09cc6ed", checked := Try.checked }
namespace Rows
def none {H : Type} : Left H := { results := [], args := [] }

/-- 'cambiumlaw22.PipeOrder': WHATEVER THE INPUT: true; the input reads as it did. -/
def pipeOrderSpec : ChangeSpec := { name := "pipeOrder", fn := fun _ => fun
  | [d1, d2, d3] => { results := [.lit (.bool true)], args := [d1, d2, d3] }
  | _ => none }
def pipeOrderRow : OpenClaim := { program := "ytpcgjcipdnacoaa", sum := "d3cee242ba29d9879f609b9ecb396a6fd2096645cbef56780596f476e09cc6ed", func := "cambium/cambiumlaw22.PipeOrder", spec := "pipeOrder", apart := false }
def PipeOrderSaid : Prop := pipeOrderRow.holds Try.pinned (OpenSpec.ofChange pipeOrderSpec)

/-- ITS FALSE NEIGHBOUR: 'it returns false'. Refute it at one input. -/
def pipeOrderWrong : ChangeSpec := { name := "pipeOrder", fn := fun _ => fun
  | [d1, d2, d3] => { results := [.lit (.bool false)], args := [d1, d2, d3] }
  | _ => none }
def PipeOrderWrongFalsely : Prop := pipeOrderRow.holds Try.pinned (OpenSpec.ofChange pipeOrderWrong)

/-- 'cambiumlaw22.PipeFull': WHATEVER THE INPUT: true; the input reads as it did. -/
def pipeFullSpec : ChangeSpec := { name := "pipeFull", fn := fun _ => fun
  | [d1, d2] => { results := [.lit (.bool true)], args := [d1, d2] }
  | _ => none }
def pipeFullRow : OpenClaim := { program := "ytpcgjcipdnacoaa", sum := "d3cee242ba29d9879f609b9ecb396a6fd2096645cbef56780596f476e09cc6ed", func := "cambium/cambiumlaw22.PipeFull", spec := "pipeFull", apart := false }
def PipeFullSaid : Prop := pipeFullRow.holds Try.pinned (OpenSpec.ofChange pipeFullSpec)

/-- ITS FALSE NEIGHBOUR: 'it returns false'. Refute it at one input. -/
def pipeFullWrong : ChangeSpec := { name := "pipeFull", fn := fun _ => fun
  | [d1, d2] => { results := [.lit (.bool false)], args := [d1, d2] }
  | _ => none }
def PipeFullWrongFalsely : Prop := pipeFullRow.holds Try.pinned (OpenSpec.ofChange pipeFullWrong)

/-- 'cambiumlaw22.PipePlays': WHATEVER THE INPUT: true; the input reads as it did. -/
def pipePlaysSpec : ChangeSpec := { name := "pipePlays", fn := fun _ => fun
  | [d] => { results := [.lit (.bool true)], args := [d] }
  | _ => none }
def pipePlaysRow : OpenClaim := { program := "ytpcgjcipdnacoaa", sum := "d3cee242ba29d9879f609b9ecb396a6fd2096645cbef56780596f476e09cc6ed", func := "cambium/cambiumlaw22.PipePlays", spec := "pipePlays", apart := false }
def PipePlaysSaid : Prop := pipePlaysRow.holds Try.pinned (OpenSpec.ofChange pipePlaysSpec)

/-- ITS FALSE NEIGHBOUR: 'it returns false'. Refute it at one input. -/
def pipePlaysWrong : ChangeSpec := { name := "pipePlays", fn := fun _ => fun
  | [d] => { results := [.lit (.bool false)], args := [d] }
  | _ => none }
def PipePlaysWrongFalsely : Prop := pipePlaysRow.holds Try.pinned (OpenSpec.ofChange pipePlaysWrong)

/- THE SECOND FORM. 'bulk': how many values and letters a reading holds, each counted each time it is reached (what is shared counts as often as it is met; a slice's spare places count too). A statement '..UptoSaid' is the law's where the arguments, and the package variables that the reading takes, are together of bulk at most 1048576: NARROWER than '..Said'. Prove '..Said' where nothing that the law and all that it calls make is longer than what came in: it says more and counts as full. Else prove '..UptoSaid'. A law counts once. -/
mutual
def uptoBulk {H : Type} : DataW H → Nat
  | .lit (.string bytes) => bytes.length + 1
  | .lit _ => 1
  | .nil => 1
  | .ptr d => uptoBulk d + 1
  | .slice elems spare => uptoBulkAll elems + uptoBulkAll spare + 1
  | .agg parts => uptoBulkAll parts + 1
  | .iface _ d => uptoBulk d + 1
  | .map entries => uptoBulkEntries entries + 1
  | .held _ => 1
def uptoBulkAll {H : Type} : List (DataW H) → Nat
  | [] => 0
  | d :: r => uptoBulk d + uptoBulkAll r
def uptoBulkEntries {H : Type} : List (Lit × DataW H) → Nat
  | [] => 0
  | x :: r => uptoBulkEntry x + uptoBulkEntries r
def uptoBulkEntry {H : Type} : Lit × DataW H → Nat
  | (.string bytes, d) => bytes.length + uptoBulk d + 1
  | (_, d) => uptoBulk d + 1
 end
def uptoSmall : (H : Type) → List (DataW H) → Bool := fun _ ds => decide (uptoBulkAll ds ≤ 1048576)
def OpenSpec.upto (s : _root_.Go.ChangeSpec) : _root_.Go.OpenSpec := { _root_.Go.OpenSpec.ofChange s with cond := some uptoSmall }

/-- 'cambiumlaw22.PipeOrder', WHERE WHAT IT READS IS OF BULK AT MOST 1048576: true; the input reads as it did. -/
def pipeOrderUptoRow : OpenClaim := { program := "ytpcgjcipdnacoaa", sum := "d3cee242ba29d9879f609b9ecb396a6fd2096645cbef56780596f476e09cc6ed", func := "cambium/cambiumlaw22.PipeOrder", spec := "pipeOrder", apart := false, narrowed := true }
def PipeOrderUptoSaid : Prop := pipeOrderUptoRow.holds Try.pinned (OpenSpec.upto pipeOrderSpec)

/-- 'cambiumlaw22.PipeFull', WHERE WHAT IT READS IS OF BULK AT MOST 1048576: true; the input reads as it did. -/
def pipeFullUptoRow : OpenClaim := { program := "ytpcgjcipdnacoaa", sum := "d3cee242ba29d9879f609b9ecb396a6fd2096645cbef56780596f476e09cc6ed", func := "cambium/cambiumlaw22.PipeFull", spec := "pipeFull", apart := false, narrowed := true }
def PipeFullUptoSaid : Prop := pipeFullUptoRow.holds Try.pinned (OpenSpec.upto pipeFullSpec)

/-- 'cambiumlaw22.PipePlays', WHERE WHAT IT READS IS OF BULK AT MOST 1048576: true; the input reads as it did. -/
def pipePlaysUptoRow : OpenClaim := { program := "ytpcgjcipdnacoaa", sum := "d3cee242ba29d9879f609b9ecb396a6fd2096645cbef56780596f476e09cc6ed", func := "cambium/cambiumlaw22.PipePlays", spec := "pipePlays", apart := false, narrowed := true }
def PipePlaysUptoSaid : Prop := pipePlaysUptoRow.holds Try.pinned (OpenSpec.upto pipePlaysSpec)

end Rows
end Go.Proofs.Ytpcgjcipdnacoaa
