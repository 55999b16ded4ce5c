/-
  No cell of these rows narrows 'for every input' (looked for: loops, veiled, ifaces, maps, wideKeys, modest, calm, conditions, laid).
  DERIVED. THE GIVEN ROWS OF THIS SEAT. 6 by the template 'for every input the law returns true; each argument reads behind the call as it read before'; 0 by the template 'total and deterministic' (their statements: YtoloibjdiojmlaaTotals.lean).
  GIVEN WITH THE SEED: the statements are not yours to turn. If you find one false, say at which input.
  Laid BY PROGRAM, IN A SANDBOX (cutbox-rows.mjs): the forced cells as the released guide's own fill.sh prints them over the translation d0a9d44ed8a9860f… (all of the seat's roots in one cut). By AI agents, Wed Nov 11 2026. No macro, syntax, notation, axiom, sorry.
-/
import Derived.Test.YtoloibjdiojmlaaChecked
import GoSem.Claim
import GoSem.ClaimJoined
import GoSem.ClaimMapViews
import Derived.JoinedTies
import Derived.KernelRfl
namespace Go.Proofs.Ytoloibjdiojmlaa
/- THE CELL 'sum', in the pinned program and in every row, IS THE sha256 OF THE DUMP (.gsa) THAT YtoloibjdiojmlaaProg.lean LOADS. Nothing in Lean hashes anything: it is a label: what it is worth is what the hold of that sum in a sandbox is worth. -/
noncomputable def Try.pinned : Pinned := { name := "ytoloibjdiojmlaa", sum := "d0a9d44ed8a9860fcf09b17eb93ecab5103aba40ee26810565501fde3e5bb34c", checked := Try.checked }
namespace Rows
def none {H : Type} : Left H := { results := [], args := [] }

/-- 'cambiumlaw03.DriveKeeps': WHATEVER THE INPUT: true; the input reads as it did. -/
def driveKeepsSpec : ChangeSpec := { name := "driveKeeps", fn := fun _ => fun
  | [d1, d2, d3] => { results := [.lit (.bool true)], args := [d1, d2, d3] }
  | _ => none }
def driveKeepsRow : OpenClaim := { program := "ytoloibjdiojmlaa", sum := "d0a9d44ed8a9860fcf09b17eb93ecab5103aba40ee26810565501fde3e5bb34c", func := "cambium/cambiumlaw03.DriveKeeps", spec := "driveKeeps", apart := false }
def DriveKeepsSaid : Prop := driveKeepsRow.holds Try.pinned (OpenSpec.ofChange driveKeepsSpec)

/-- ITS FALSE NEIGHBOUR: 'it returns false'. Refute it at one input. -/
def driveKeepsWrong : ChangeSpec := { name := "driveKeeps", fn := fun _ => fun
  | [d1, d2, d3] => { results := [.lit (.bool false)], args := [d1, d2, d3] }
  | _ => none }
def DriveKeepsWrongFalsely : Prop := driveKeepsRow.holds Try.pinned (OpenSpec.ofChange driveKeepsWrong)

/-- 'cambiumlaw03.DriveFuses': WHATEVER THE INPUT: true; the input reads as it did. -/
def driveFusesSpec : ChangeSpec := { name := "driveFuses", fn := fun _ => fun
  | [d1, d2] => { results := [.lit (.bool true)], args := [d1, d2] }
  | _ => none }
def driveFusesRow : OpenClaim := { program := "ytoloibjdiojmlaa", sum := "d0a9d44ed8a9860fcf09b17eb93ecab5103aba40ee26810565501fde3e5bb34c", func := "cambium/cambiumlaw03.DriveFuses", spec := "driveFuses", apart := false }
def DriveFusesSaid : Prop := driveFusesRow.holds Try.pinned (OpenSpec.ofChange driveFusesSpec)

/-- ITS FALSE NEIGHBOUR: 'it returns false'. Refute it at one input. -/
def driveFusesWrong : ChangeSpec := { name := "driveFuses", fn := fun _ => fun
  | [d1, d2] => { results := [.lit (.bool false)], args := [d1, d2] }
  | _ => none }
def DriveFusesWrongFalsely : Prop := driveFusesRow.holds Try.pinned (OpenSpec.ofChange driveFusesWrong)

/-- 'cambiumlaw03.DriveReads': WHATEVER THE INPUT: true; the input reads as it did. -/
def driveReadsSpec : ChangeSpec := { name := "driveReads", fn := fun _ => fun
  | [d] => { results := [.lit (.bool true)], args := [d] }
  | _ => none }
def driveReadsRow : OpenClaim := { program := "ytoloibjdiojmlaa", sum := "d0a9d44ed8a9860fcf09b17eb93ecab5103aba40ee26810565501fde3e5bb34c", func := "cambium/cambiumlaw03.DriveReads", spec := "driveReads", apart := false }
def DriveReadsSaid : Prop := driveReadsRow.holds Try.pinned (OpenSpec.ofChange driveReadsSpec)

/-- ITS FALSE NEIGHBOUR: 'it returns false'. Refute it at one input. -/
def driveReadsWrong : ChangeSpec := { name := "driveReads", fn := fun _ => fun
  | [d] => { results := [.lit (.bool false)], args := [d] }
  | _ => none }
def DriveReadsWrongFalsely : Prop := driveReadsRow.holds Try.pinned (OpenSpec.ofChange driveReadsWrong)

/-- 'cambiumlaw03.DriveTurns': WHATEVER THE INPUT: true; the input reads as it did. -/
def driveTurnsSpec : ChangeSpec := { name := "driveTurns", fn := fun _ => fun
  | [d1, d2] => { results := [.lit (.bool true)], args := [d1, d2] }
  | _ => none }
def driveTurnsRow : OpenClaim := { program := "ytoloibjdiojmlaa", sum := "d0a9d44ed8a9860fcf09b17eb93ecab5103aba40ee26810565501fde3e5bb34c", func := "cambium/cambiumlaw03.DriveTurns", spec := "driveTurns", apart := false }
def DriveTurnsSaid : Prop := driveTurnsRow.holds Try.pinned (OpenSpec.ofChange driveTurnsSpec)

/-- ITS FALSE NEIGHBOUR: 'it returns false'. Refute it at one input. -/
def driveTurnsWrong : ChangeSpec := { name := "driveTurns", fn := fun _ => fun
  | [d1, d2] => { results := [.lit (.bool false)], args := [d1, d2] }
  | _ => none }
def DriveTurnsWrongFalsely : Prop := driveTurnsRow.holds Try.pinned (OpenSpec.ofChange driveTurnsWrong)

/-- 'cambiumlaw03.DriveBad': WHATEVER THE INPUT: true; the input reads as it did. -/
def driveBadSpec : ChangeSpec := { name := "driveBad", fn := fun _ => fun
  | [d1, d2, d3] => { results := [.lit (.bool true)], args := [d1, d2, d3] }
  | _ => none }
def driveBadRow : OpenClaim := { program := "ytoloibjdiojmlaa", sum := "d0a9d44ed8a9860fcf09b17eb93ecab5103aba40ee26810565501fde3e5bb34c", func := "cambium/cambiumlaw03.DriveBad", spec := "driveBad", apart := false }
def DriveBadSaid : Prop := driveBadRow.holds Try.pinned (OpenSpec.ofChange driveBadSpec)

/-- ITS FALSE NEIGHBOUR: 'it returns false'. Refute it at one input. -/
def driveBadWrong : ChangeSpec := { name := "driveBad", fn := fun _ => fun
  | [d1, d2, d3] => { results := [.lit (.bool false)], args := [d1, d2, d3] }
  | _ => none }
def DriveBadWrongFalsely : Prop := driveBadRow.holds Try.pinned (OpenSpec.ofChange driveBadWrong)

/-- 'cambiumlaw03.DrivePlays': WHATEVER THE INPUT: true; the input reads as it did. -/
def drivePlaysSpec : ChangeSpec := { name := "drivePlays", fn := fun _ => fun
  | [d1, d2] => { results := [.lit (.bool true)], args := [d1, d2] }
  | _ => none }
def drivePlaysRow : OpenClaim := { program := "ytoloibjdiojmlaa", sum := "d0a9d44ed8a9860fcf09b17eb93ecab5103aba40ee26810565501fde3e5bb34c", func := "cambium/cambiumlaw03.DrivePlays", spec := "drivePlays", apart := false }
def DrivePlaysSaid : Prop := drivePlaysRow.holds Try.pinned (OpenSpec.ofChange drivePlaysSpec)

/-- ITS FALSE NEIGHBOUR: 'it returns false'. Refute it at one input. -/
def drivePlaysWrong : ChangeSpec := { name := "drivePlays", fn := fun _ => fun
  | [d1, d2] => { results := [.lit (.bool false)], args := [d1, d2] }
  | _ => none }
def DrivePlaysWrongFalsely : Prop := drivePlaysRow.holds Try.pinned (OpenSpec.ofChange drivePlaysWrong)

/- THE SECOND FORM. 'bulk': how many values and letters a reading holds, each counted each time it is reached (what is shared counts as often as it is met; a slice's spare places count too). A statement '..UptoSaid' is the law's where the arguments, and the package variables that the reading takes, are together of bulk at most 1048576: NARROWER than '..Said'. Prove '..Said' where nothing that the law and all that it calls make is longer than what came in: it says more and counts as full. Else prove '..UptoSaid'. A law counts once. -/
mutual
def uptoBulk {H : Type} : DataW H → Nat
  | .lit (.string bytes) => bytes.length + 1
  | .lit _ => 1
  | .nil => 1
  | .ptr d => uptoBulk d + 1
  | .slice elems spare => uptoBulkAll elems + uptoBulkAll spare + 1
  | .agg parts => uptoBulkAll parts + 1
  | .iface _ d => uptoBulk d + 1
  | .map entries => uptoBulkEntries entries + 1
  | .held _ => 1
def uptoBulkAll {H : Type} : List (DataW H) → Nat
  | [] => 0
  | d :: r => uptoBulk d + uptoBulkAll r
def uptoBulkEntries {H : Type} : List (Lit × DataW H) → Nat
  | [] => 0
  | x :: r => uptoBulkEntry x + uptoBulkEntries r
def uptoBulkEntry {H : Type} : Lit × DataW H → Nat
  | (.string bytes, d) => bytes.length + uptoBulk d + 1
  | (_, d) => uptoBulk d + 1
 end
def uptoSmall : (H : Type) → List (DataW H) → Bool := fun _ ds => decide (uptoBulkAll ds ≤ 1048576)
def OpenSpec.upto (s : _root_.Go.ChangeSpec) : _root_.Go.OpenSpec := { _root_.Go.OpenSpec.ofChange s with cond := some uptoSmall }

/-- 'cambiumlaw03.DriveKeeps', WHERE WHAT IT READS IS OF BULK AT MOST 1048576: true; the input reads as it did. -/
def driveKeepsUptoRow : OpenClaim := { program := "ytoloibjdiojmlaa", sum := "d0a9d44ed8a9860fcf09b17eb93ecab5103aba40ee26810565501fde3e5bb34c", func := "cambium/cambiumlaw03.DriveKeeps", spec := "driveKeeps", apart := false, narrowed := true }
def DriveKeepsUptoSaid : Prop := driveKeepsUptoRow.holds Try.pinned (OpenSpec.upto driveKeepsSpec)

/-- 'cambiumlaw03.DriveFuses', WHERE WHAT IT READS IS OF BULK AT MOST 1048576: true; the input reads as it did. -/
def driveFusesUptoRow : OpenClaim := { program := "ytoloibjdiojmlaa", sum := "d0a9d44ed8a9860fcf09b17eb93ecab5103aba40ee26810565501fde3e5bb34c", func := "cambium/cambiumlaw03.DriveFuses", spec := "driveFuses", apart := false, narrowed := true }
def DriveFusesUptoSaid : Prop := driveFusesUptoRow.holds Try.pinned (OpenSpec.upto driveFusesSpec)

/-- 'cambiumlaw03.DriveReads', WHERE WHAT IT READS IS OF BULK AT MOST 1048576: true; the input reads as it did. -/
def driveReadsUptoRow : OpenClaim := { program := "ytoloibjdiojmlaa", sum := "d0a9d44ed8a9860fcf09b17eb93ecab5103aba40ee26810565501fde3e5bb34c", func := "cambium/cambiumlaw03.DriveReads", spec := "driveReads", apart := false, narrowed := true }
def DriveReadsUptoSaid : Prop := driveReadsUptoRow.holds Try.pinned (OpenSpec.upto driveReadsSpec)

/-- 'cambiumlaw03.DriveTurns', WHERE WHAT IT READS IS OF BULK AT MOST 1048576: true; the input reads as it did. -/
def driveTurnsUptoRow : OpenClaim := { program := "ytoloibjdiojmlaa", sum := "d0a9d44ed8a9860fcf09b17eb93ecab5103aba40ee26810565501fde3e5bb34c", func := "cambium/cambiumlaw03.DriveTurns", spec := "driveTurns", apart := false, narrowed := true }
def DriveTurnsUptoSaid : Prop := driveTurnsUptoRow.holds Try.pinned (OpenSpec.upto driveTurnsSpec)

/-- 'cambiumlaw03.DriveBad', WHERE WHAT IT READS IS OF BULK AT MOST 1048576: true; the input reads as it did. -/
def driveBadUptoRow : OpenClaim := { program := "ytoloibjdiojmlaa", sum := "d0a9d44ed8a9860fcf09b17eb93ecab5103aba40ee26810565501fde3e5bb34c", func := "cambium/cambiumlaw03.DriveBad", spec := "driveBad", apart := false, narrowed := true }
def DriveBadUptoSaid : Prop := driveBadUptoRow.holds Try.pinned (OpenSpec.upto driveBadSpec)

/-- 'cambiumlaw03.DrivePlays', WHERE WHAT IT READS IS OF BULK AT MOST 1048576: true; the input reads as it did. -/
def drivePlaysUptoRow : OpenClaim := { program := "ytoloibjdiojmlaa", sum := "d0a9d44ed8a9860fcf09b17eb93ecab5103aba40ee26810565501fde3e5bb34c", func := "cambium/cambiumlaw03.DrivePlays", spec := "drivePlays", apart := false, narrowed := true }
def DrivePlaysUptoSaid : Prop := drivePlaysUptoRow.holds Try.pinned (OpenSpec.upto drivePlaysSpec)

end Rows
end Go.Proofs.Ytoloibjdiojmlaa
