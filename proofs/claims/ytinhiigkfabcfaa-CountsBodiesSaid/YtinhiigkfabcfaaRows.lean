/-
  No cell of these rows narrows 'for every input' (looked for: loops, veiled, ifaces, maps, wideKeys, modest, calm, conditions, laid).
  DERIVED. THE GIVEN ROWS OF THIS SEAT. 6 by the template 'for every input the law returns true; each argument reads behind the call as it read before'; 0 by the template 'total and deterministic' (their statements: YtinhiigkfabcfaaTotals.lean).
  GIVEN WITH THE SEED: the statements are not yours to turn. If you find one false, say at which input.
  Laid BY PROGRAM, IN A SANDBOX (cutbox-rows.mjs): the forced cells as the released guide's own fill.sh prints them over the translation a9e9689440689829… (all of the seat's roots in one cut). By AI agents, Wed Nov 11 2026. No macro, syntax, notation, axiom, sorry.
-/
import Derived.Test.YtinhiigkfabcfaaChecked
import GoSem.Claim
import GoSem.ClaimJoined
import GoSem.ClaimMapViews
import Derived.JoinedTies
import Derived.KernelRfl
namespace Go.Proofs.Ytinhiigkfabcfaa
/- THE CELL 'sum', in the pinned program and in every row, IS THE sha256 OF THE DUMP (.gsa) THAT YtinhiigkfabcfaaProg.lean LOADS. Nothing in Lean hashes anything: it is a label: what it is worth is what the hold of that sum in a sandbox is worth. -/
noncomputable def Try.pinned : Pinned := { name := "ytinhiigkfabcfaa", sum := "a9e968944068982961f1e74648c2297275ef21b8359247bca73aafedc1a92a25", checked := Try.checked }
namespace Rows
def none {H : Type} : Left H := { results := [], args := [] }

/-- 'cambiumlaw08.CountsAll': WHATEVER THE INPUT: true; the input reads as it did. -/
def countsAllSpec : ChangeSpec := { name := "countsAll", fn := fun _ => fun
  | [d1, d2] => { results := [.lit (.bool true)], args := [d1, d2] }
  | _ => none }
def countsAllRow : OpenClaim := { program := "ytinhiigkfabcfaa", sum := "a9e968944068982961f1e74648c2297275ef21b8359247bca73aafedc1a92a25", func := "cambium/cambiumlaw08.CountsAll", spec := "countsAll", apart := false }
def CountsAllSaid : Prop := countsAllRow.holds Try.pinned (OpenSpec.ofChange countsAllSpec)

/-- ITS FALSE NEIGHBOUR: 'it returns false'. Refute it at one input. -/
def countsAllWrong : ChangeSpec := { name := "countsAll", fn := fun _ => fun
  | [d1, d2] => { results := [.lit (.bool false)], args := [d1, d2] }
  | _ => none }
def CountsAllWrongFalsely : Prop := countsAllRow.holds Try.pinned (OpenSpec.ofChange countsAllWrong)

/-- 'cambiumlaw08.CountsSafe': WHATEVER THE INPUT: true; the input reads as it did. -/
def countsSafeSpec : ChangeSpec := { name := "countsSafe", fn := fun _ => fun
  | [d1, d2] => { results := [.lit (.bool true)], args := [d1, d2] }
  | _ => none }
def countsSafeRow : OpenClaim := { program := "ytinhiigkfabcfaa", sum := "a9e968944068982961f1e74648c2297275ef21b8359247bca73aafedc1a92a25", func := "cambium/cambiumlaw08.CountsSafe", spec := "countsSafe", apart := false }
def CountsSafeSaid : Prop := countsSafeRow.holds Try.pinned (OpenSpec.ofChange countsSafeSpec)

/-- ITS FALSE NEIGHBOUR: 'it returns false'. Refute it at one input. -/
def countsSafeWrong : ChangeSpec := { name := "countsSafe", fn := fun _ => fun
  | [d1, d2] => { results := [.lit (.bool false)], args := [d1, d2] }
  | _ => none }
def CountsSafeWrongFalsely : Prop := countsSafeRow.holds Try.pinned (OpenSpec.ofChange countsSafeWrong)

/-- 'cambiumlaw08.CountsBad': WHATEVER THE INPUT: true; the input reads as it did. -/
def countsBadSpec : ChangeSpec := { name := "countsBad", fn := fun _ => fun
  | [d1, d2] => { results := [.lit (.bool true)], args := [d1, d2] }
  | _ => none }
def countsBadRow : OpenClaim := { program := "ytinhiigkfabcfaa", sum := "a9e968944068982961f1e74648c2297275ef21b8359247bca73aafedc1a92a25", func := "cambium/cambiumlaw08.CountsBad", spec := "countsBad", apart := false }
def CountsBadSaid : Prop := countsBadRow.holds Try.pinned (OpenSpec.ofChange countsBadSpec)

/-- ITS FALSE NEIGHBOUR: 'it returns false'. Refute it at one input. -/
def countsBadWrong : ChangeSpec := { name := "countsBad", fn := fun _ => fun
  | [d1, d2] => { results := [.lit (.bool false)], args := [d1, d2] }
  | _ => none }
def CountsBadWrongFalsely : Prop := countsBadRow.holds Try.pinned (OpenSpec.ofChange countsBadWrong)

/-- 'cambiumlaw08.CountsPlay': WHATEVER THE INPUT: true; the input reads as it did. -/
def countsPlaySpec : ChangeSpec := { name := "countsPlay", fn := fun _ => fun
  | [d1, d2] => { results := [.lit (.bool true)], args := [d1, d2] }
  | _ => none }
def countsPlayRow : OpenClaim := { program := "ytinhiigkfabcfaa", sum := "a9e968944068982961f1e74648c2297275ef21b8359247bca73aafedc1a92a25", func := "cambium/cambiumlaw08.CountsPlay", spec := "countsPlay", apart := false }
def CountsPlaySaid : Prop := countsPlayRow.holds Try.pinned (OpenSpec.ofChange countsPlaySpec)

/-- ITS FALSE NEIGHBOUR: 'it returns false'. Refute it at one input. -/
def countsPlayWrong : ChangeSpec := { name := "countsPlay", fn := fun _ => fun
  | [d1, d2] => { results := [.lit (.bool false)], args := [d1, d2] }
  | _ => none }
def CountsPlayWrongFalsely : Prop := countsPlayRow.holds Try.pinned (OpenSpec.ofChange countsPlayWrong)

/-- 'cambiumlaw08.CountsBodies': WHATEVER THE INPUT: true; the input reads as it did. -/
def countsBodiesSpec : ChangeSpec := { name := "countsBodies", fn := fun _ => fun
  | [d1, d2, d3] => { results := [.lit (.bool true)], args := [d1, d2, d3] }
  | _ => none }
def countsBodiesRow : OpenClaim := { program := "ytinhiigkfabcfaa", sum := "a9e968944068982961f1e74648c2297275ef21b8359247bca73aafedc1a92a25", func := "cambium/cambiumlaw08.CountsBodies", spec := "countsBodies", apart := false }
def CountsBodiesSaid : Prop := countsBodiesRow.holds Try.pinned (OpenSpec.ofChange countsBodiesSpec)

/-- ITS FALSE NEIGHBOUR: 'it returns false'. Refute it at one input. -/
def countsBodiesWrong : ChangeSpec := { name := "countsBodies", fn := fun _ => fun
  | [d1, d2, d3] => { results := [.lit (.bool false)], args := [d1, d2, d3] }
  | _ => none }
def CountsBodiesWrongFalsely : Prop := countsBodiesRow.holds Try.pinned (OpenSpec.ofChange countsBodiesWrong)

/-- 'cambiumlaw08.CountsBack': WHATEVER THE INPUT: true; the input reads as it did. -/
def countsBackSpec : ChangeSpec := { name := "countsBack", fn := fun _ => fun
  | [d1, d2] => { results := [.lit (.bool true)], args := [d1, d2] }
  | _ => none }
def countsBackRow : OpenClaim := { program := "ytinhiigkfabcfaa", sum := "a9e968944068982961f1e74648c2297275ef21b8359247bca73aafedc1a92a25", func := "cambium/cambiumlaw08.CountsBack", spec := "countsBack", apart := false }
def CountsBackSaid : Prop := countsBackRow.holds Try.pinned (OpenSpec.ofChange countsBackSpec)

/-- ITS FALSE NEIGHBOUR: 'it returns false'. Refute it at one input. -/
def countsBackWrong : ChangeSpec := { name := "countsBack", fn := fun _ => fun
  | [d1, d2] => { results := [.lit (.bool false)], args := [d1, d2] }
  | _ => none }
def CountsBackWrongFalsely : Prop := countsBackRow.holds Try.pinned (OpenSpec.ofChange countsBackWrong)

/- THE SECOND FORM. 'bulk': how many values and letters a reading holds, each counted each time it is reached (what is shared counts as often as it is met; a slice's spare places count too). A statement '..UptoSaid' is the law's where the arguments, and the package variables that the reading takes, are together of bulk at most 1048576: NARROWER than '..Said'. Prove '..Said' where nothing that the law and all that it calls make is longer than what came in: it says more and counts as full. Else prove '..UptoSaid'. A law counts once. -/
mutual
def uptoBulk {H : Type} : DataW H → Nat
  | .lit (.string bytes) => bytes.length + 1
  | .lit _ => 1
  | .nil => 1
  | .ptr d => uptoBulk d + 1
  | .slice elems spare => uptoBulkAll elems + uptoBulkAll spare + 1
  | .agg parts => uptoBulkAll parts + 1
  | .iface _ d => uptoBulk d + 1
  | .map entries => uptoBulkEntries entries + 1
  | .held _ => 1
def uptoBulkAll {H : Type} : List (DataW H) → Nat
  | [] => 0
  | d :: r => uptoBulk d + uptoBulkAll r
def uptoBulkEntries {H : Type} : List (Lit × DataW H) → Nat
  | [] => 0
  | x :: r => uptoBulkEntry x + uptoBulkEntries r
def uptoBulkEntry {H : Type} : Lit × DataW H → Nat
  | (.string bytes, d) => bytes.length + uptoBulk d + 1
  | (_, d) => uptoBulk d + 1
 end
def uptoSmall : (H : Type) → List (DataW H) → Bool := fun _ ds => decide (uptoBulkAll ds ≤ 1048576)
def OpenSpec.upto (s : _root_.Go.ChangeSpec) : _root_.Go.OpenSpec := { _root_.Go.OpenSpec.ofChange s with cond := some uptoSmall }

/-- 'cambiumlaw08.CountsAll', WHERE WHAT IT READS IS OF BULK AT MOST 1048576: true; the input reads as it did. -/
def countsAllUptoRow : OpenClaim := { program := "ytinhiigkfabcfaa", sum := "a9e968944068982961f1e74648c2297275ef21b8359247bca73aafedc1a92a25", func := "cambium/cambiumlaw08.CountsAll", spec := "countsAll", apart := false, narrowed := true }
def CountsAllUptoSaid : Prop := countsAllUptoRow.holds Try.pinned (OpenSpec.upto countsAllSpec)

/-- 'cambiumlaw08.CountsSafe', WHERE WHAT IT READS IS OF BULK AT MOST 1048576: true; the input reads as it did. -/
def countsSafeUptoRow : OpenClaim := { program := "ytinhiigkfabcfaa", sum := "a9e968944068982961f1e74648c2297275ef21b8359247bca73aafedc1a92a25", func := "cambium/cambiumlaw08.CountsSafe", spec := "countsSafe", apart := false, narrowed := true }
def CountsSafeUptoSaid : Prop := countsSafeUptoRow.holds Try.pinned (OpenSpec.upto countsSafeSpec)

/-- 'cambiumlaw08.CountsBad', WHERE WHAT IT READS IS OF BULK AT MOST 1048576: true; the input reads as it did. -/
def countsBadUptoRow : OpenClaim := { program := "ytinhiigkfabcfaa", sum := "a9e968944068982961f1e74648c2297275ef21b8359247bca73aafedc1a92a25", func := "cambium/cambiumlaw08.CountsBad", spec := "countsBad", apart := false, narrowed := true }
def CountsBadUptoSaid : Prop := countsBadUptoRow.holds Try.pinned (OpenSpec.upto countsBadSpec)

/-- 'cambiumlaw08.CountsPlay', WHERE WHAT IT READS IS OF BULK AT MOST 1048576: true; the input reads as it did. -/
def countsPlayUptoRow : OpenClaim := { program := "ytinhiigkfabcfaa", sum := "a9e968944068982961f1e74648c2297275ef21b8359247bca73aafedc1a92a25", func := "cambium/cambiumlaw08.CountsPlay", spec := "countsPlay", apart := false, narrowed := true }
def CountsPlayUptoSaid : Prop := countsPlayUptoRow.holds Try.pinned (OpenSpec.upto countsPlaySpec)

/-- 'cambiumlaw08.CountsBodies', WHERE WHAT IT READS IS OF BULK AT MOST 1048576: true; the input reads as it did. -/
def countsBodiesUptoRow : OpenClaim := { program := "ytinhiigkfabcfaa", sum := "a9e968944068982961f1e74648c2297275ef21b8359247bca73aafedc1a92a25", func := "cambium/cambiumlaw08.CountsBodies", spec := "countsBodies", apart := false, narrowed := true }
def CountsBodiesUptoSaid : Prop := countsBodiesUptoRow.holds Try.pinned (OpenSpec.upto countsBodiesSpec)

/-- 'cambiumlaw08.CountsBack', WHERE WHAT IT READS IS OF BULK AT MOST 1048576: true; the input reads as it did. -/
def countsBackUptoRow : OpenClaim := { program := "ytinhiigkfabcfaa", sum := "a9e968944068982961f1e74648c2297275ef21b8359247bca73aafedc1a92a25", func := "cambium/cambiumlaw08.CountsBack", spec := "countsBack", apart := false, narrowed := true }
def CountsBackUptoSaid : Prop := countsBackUptoRow.holds Try.pinned (OpenSpec.upto countsBackSpec)

end Rows
end Go.Proofs.Ytinhiigkfabcfaa
