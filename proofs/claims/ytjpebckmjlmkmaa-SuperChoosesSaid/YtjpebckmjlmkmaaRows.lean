/-
  No cell of these rows narrows 'for every input' (looked for: loops, veiled, ifaces, maps, wideKeys, modest, calm, conditions, laid).
  DERIVED. THE GIVEN ROWS OF THIS SEAT. 7 by the template 'for every input the law returns true; each argument reads behind the call as it read before'; 0 by the template 'total and deterministic' (their statements: YtjpebckmjlmkmaaTotals.lean).
  GIVEN WITH THE SEED: the statements are not yours to turn. If you find one false, say at which input.
  Laid BY PROGRAM, IN A SANDBOX (cutbox-rows.mjs): the forced cells as the released guide's own fill.sh prints them over the translation d33202e15e32a1fd… (all of the seat's roots in one cut). By AI agents, Wed Nov 11 2026. No macro, syntax, notation, axiom, sorry.
-/
import Derived.Test.YtjpebckmjlmkmaaChecked
import GoSem.Claim
import GoSem.ClaimJoined
import GoSem.ClaimMapViews
import Derived.JoinedTies
import Derived.KernelRfl
namespace Go.Proofs.Ytjpebckmjlmkmaa
/- THE CELL 'sum', in the pinned program and in every row, IS THE sha256 OF THE DUMP (.gsa) THAT YtjpebckmjlmkmaaProg.lean LOADS. Nothing in Lean hashes anything: it is a label: what it is worth is what the hold of that sum in a sandbox is worth. -/
noncomputable def Try.pinned : Pinned := { name := "ytjpebckmjlmkmaa", sum := "d33202e15e32a1fd389b6f6c12f1c874774a7a4c295ee3a25c2343b00c9b27b0", checked := Try.checked }
namespace Rows
def none {H : Type} : Left H := { results := [], args := [] }

/-- 'cambiumlaw07.SuperReads': WHATEVER THE INPUT: true; the input reads as it did. -/
def superReadsSpec : ChangeSpec := { name := "superReads", fn := fun _ => fun
  | [d1, d2] => { results := [.lit (.bool true)], args := [d1, d2] }
  | _ => none }
def superReadsRow : OpenClaim := { program := "ytjpebckmjlmkmaa", sum := "d33202e15e32a1fd389b6f6c12f1c874774a7a4c295ee3a25c2343b00c9b27b0", func := "cambium/cambiumlaw07.SuperReads", spec := "superReads", unfollowed := true, recurses := true, apart := false }
def SuperReadsSaid : Prop := superReadsRow.holds Try.pinned (OpenSpec.ofChange superReadsSpec)

/-- ITS FALSE NEIGHBOUR: 'it returns false'. Refute it at one input. -/
def superReadsWrong : ChangeSpec := { name := "superReads", fn := fun _ => fun
  | [d1, d2] => { results := [.lit (.bool false)], args := [d1, d2] }
  | _ => none }
def SuperReadsWrongFalsely : Prop := superReadsRow.holds Try.pinned (OpenSpec.ofChange superReadsWrong)

/-- 'cambiumlaw07.SuperNewer': WHATEVER THE INPUT: true; the input reads as it did. -/
def superNewerSpec : ChangeSpec := { name := "superNewer", fn := fun _ => fun
  | [d1, d2] => { results := [.lit (.bool true)], args := [d1, d2] }
  | _ => none }
def superNewerRow : OpenClaim := { program := "ytjpebckmjlmkmaa", sum := "d33202e15e32a1fd389b6f6c12f1c874774a7a4c295ee3a25c2343b00c9b27b0", func := "cambium/cambiumlaw07.SuperNewer", spec := "superNewer", unfollowed := true, recurses := true, apart := false }
def SuperNewerSaid : Prop := superNewerRow.holds Try.pinned (OpenSpec.ofChange superNewerSpec)

/-- ITS FALSE NEIGHBOUR: 'it returns false'. Refute it at one input. -/
def superNewerWrong : ChangeSpec := { name := "superNewer", fn := fun _ => fun
  | [d1, d2] => { results := [.lit (.bool false)], args := [d1, d2] }
  | _ => none }
def SuperNewerWrongFalsely : Prop := superNewerRow.holds Try.pinned (OpenSpec.ofChange superNewerWrong)

/-- 'cambiumlaw07.SuperLabels': WHATEVER THE INPUT: true; the input reads as it did. -/
def superLabelsSpec : ChangeSpec := { name := "superLabels", fn := fun _ => fun
  | [d1, d2] => { results := [.lit (.bool true)], args := [d1, d2] }
  | _ => none }
def superLabelsRow : OpenClaim := { program := "ytjpebckmjlmkmaa", sum := "d33202e15e32a1fd389b6f6c12f1c874774a7a4c295ee3a25c2343b00c9b27b0", func := "cambium/cambiumlaw07.SuperLabels", spec := "superLabels", unfollowed := true, recurses := true, apart := false }
def SuperLabelsSaid : Prop := superLabelsRow.holds Try.pinned (OpenSpec.ofChange superLabelsSpec)

/-- ITS FALSE NEIGHBOUR: 'it returns false'. Refute it at one input. -/
def superLabelsWrong : ChangeSpec := { name := "superLabels", fn := fun _ => fun
  | [d1, d2] => { results := [.lit (.bool false)], args := [d1, d2] }
  | _ => none }
def SuperLabelsWrongFalsely : Prop := superLabelsRow.holds Try.pinned (OpenSpec.ofChange superLabelsWrong)

/-- 'cambiumlaw07.SuperAreas': WHATEVER THE INPUT: true; the input reads as it did. -/
def superAreasSpec : ChangeSpec := { name := "superAreas", fn := fun _ => fun
  | [d] => { results := [.lit (.bool true)], args := [d] }
  | _ => none }
def superAreasRow : OpenClaim := { program := "ytjpebckmjlmkmaa", sum := "d33202e15e32a1fd389b6f6c12f1c874774a7a4c295ee3a25c2343b00c9b27b0", func := "cambium/cambiumlaw07.SuperAreas", spec := "superAreas", unfollowed := true, recurses := true, apart := false }
def SuperAreasSaid : Prop := superAreasRow.holds Try.pinned (OpenSpec.ofChange superAreasSpec)

/-- ITS FALSE NEIGHBOUR: 'it returns false'. Refute it at one input. -/
def superAreasWrong : ChangeSpec := { name := "superAreas", fn := fun _ => fun
  | [d] => { results := [.lit (.bool false)], args := [d] }
  | _ => none }
def SuperAreasWrongFalsely : Prop := superAreasRow.holds Try.pinned (OpenSpec.ofChange superAreasWrong)

/-- 'cambiumlaw07.SuperWrites': WHATEVER THE INPUT: true; the input reads as it did. -/
def superWritesSpec : ChangeSpec := { name := "superWrites", fn := fun _ => fun
  | [d1, d2] => { results := [.lit (.bool true)], args := [d1, d2] }
  | _ => none }
def superWritesRow : OpenClaim := { program := "ytjpebckmjlmkmaa", sum := "d33202e15e32a1fd389b6f6c12f1c874774a7a4c295ee3a25c2343b00c9b27b0", func := "cambium/cambiumlaw07.SuperWrites", spec := "superWrites", unfollowed := true, recurses := true, apart := false }
def SuperWritesSaid : Prop := superWritesRow.holds Try.pinned (OpenSpec.ofChange superWritesSpec)

/-- ITS FALSE NEIGHBOUR: 'it returns false'. Refute it at one input. -/
def superWritesWrong : ChangeSpec := { name := "superWrites", fn := fun _ => fun
  | [d1, d2] => { results := [.lit (.bool false)], args := [d1, d2] }
  | _ => none }
def SuperWritesWrongFalsely : Prop := superWritesRow.holds Try.pinned (OpenSpec.ofChange superWritesWrong)

/-- 'cambiumlaw07.SuperBack': WHATEVER THE INPUT: true; the input reads as it did. -/
def superBackSpec : ChangeSpec := { name := "superBack", fn := fun _ => fun
  | [d1, d2, d3] => { results := [.lit (.bool true)], args := [d1, d2, d3] }
  | _ => none }
def superBackRow : OpenClaim := { program := "ytjpebckmjlmkmaa", sum := "d33202e15e32a1fd389b6f6c12f1c874774a7a4c295ee3a25c2343b00c9b27b0", func := "cambium/cambiumlaw07.SuperBack", spec := "superBack", unfollowed := true, recurses := true, apart := false }
def SuperBackSaid : Prop := superBackRow.holds Try.pinned (OpenSpec.ofChange superBackSpec)

/-- ITS FALSE NEIGHBOUR: 'it returns false'. Refute it at one input. -/
def superBackWrong : ChangeSpec := { name := "superBack", fn := fun _ => fun
  | [d1, d2, d3] => { results := [.lit (.bool false)], args := [d1, d2, d3] }
  | _ => none }
def SuperBackWrongFalsely : Prop := superBackRow.holds Try.pinned (OpenSpec.ofChange superBackWrong)

/-- 'cambiumlaw07.SuperChooses': WHATEVER THE INPUT: true; the input reads as it did. -/
def superChoosesSpec : ChangeSpec := { name := "superChooses", fn := fun _ => fun
  | [d1, d2, d3] => { results := [.lit (.bool true)], args := [d1, d2, d3] }
  | _ => none }
def superChoosesRow : OpenClaim := { program := "ytjpebckmjlmkmaa", sum := "d33202e15e32a1fd389b6f6c12f1c874774a7a4c295ee3a25c2343b00c9b27b0", func := "cambium/cambiumlaw07.SuperChooses", spec := "superChooses", unfollowed := true, recurses := true, apart := false }
def SuperChoosesSaid : Prop := superChoosesRow.holds Try.pinned (OpenSpec.ofChange superChoosesSpec)

/-- ITS FALSE NEIGHBOUR: 'it returns false'. Refute it at one input. -/
def superChoosesWrong : ChangeSpec := { name := "superChooses", fn := fun _ => fun
  | [d1, d2, d3] => { results := [.lit (.bool false)], args := [d1, d2, d3] }
  | _ => none }
def SuperChoosesWrongFalsely : Prop := superChoosesRow.holds Try.pinned (OpenSpec.ofChange superChoosesWrong)

/- THE SECOND FORM. 'bulk': how many values and letters a reading holds, each counted each time it is reached (what is shared counts as often as it is met; a slice's spare places count too). A statement '..UptoSaid' is the law's where the arguments, and the package variables that the reading takes, are together of bulk at most 1048576: NARROWER than '..Said'. Prove '..Said' where nothing that the law and all that it calls make is longer than what came in: it says more and counts as full. Else prove '..UptoSaid'. A law counts once. -/
mutual
def uptoBulk {H : Type} : DataW H → Nat
  | .lit (.string bytes) => bytes.length + 1
  | .lit _ => 1
  | .nil => 1
  | .ptr d => uptoBulk d + 1
  | .slice elems spare => uptoBulkAll elems + uptoBulkAll spare + 1
  | .agg parts => uptoBulkAll parts + 1
  | .iface _ d => uptoBulk d + 1
  | .map entries => uptoBulkEntries entries + 1
  | .held _ => 1
def uptoBulkAll {H : Type} : List (DataW H) → Nat
  | [] => 0
  | d :: r => uptoBulk d + uptoBulkAll r
def uptoBulkEntries {H : Type} : List (Lit × DataW H) → Nat
  | [] => 0
  | x :: r => uptoBulkEntry x + uptoBulkEntries r
def uptoBulkEntry {H : Type} : Lit × DataW H → Nat
  | (.string bytes, d) => bytes.length + uptoBulk d + 1
  | (_, d) => uptoBulk d + 1
 end
def uptoSmall : (H : Type) → List (DataW H) → Bool := fun _ ds => decide (uptoBulkAll ds ≤ 1048576)
def OpenSpec.upto (s : _root_.Go.ChangeSpec) : _root_.Go.OpenSpec := { _root_.Go.OpenSpec.ofChange s with cond := some uptoSmall }

/-- 'cambiumlaw07.SuperReads', WHERE WHAT IT READS IS OF BULK AT MOST 1048576: true; the input reads as it did. -/
def superReadsUptoRow : OpenClaim := { program := "ytjpebckmjlmkmaa", sum := "d33202e15e32a1fd389b6f6c12f1c874774a7a4c295ee3a25c2343b00c9b27b0", func := "cambium/cambiumlaw07.SuperReads", spec := "superReads", unfollowed := true, recurses := true, apart := false, narrowed := true }
def SuperReadsUptoSaid : Prop := superReadsUptoRow.holds Try.pinned (OpenSpec.upto superReadsSpec)

/-- 'cambiumlaw07.SuperNewer', WHERE WHAT IT READS IS OF BULK AT MOST 1048576: true; the input reads as it did. -/
def superNewerUptoRow : OpenClaim := { program := "ytjpebckmjlmkmaa", sum := "d33202e15e32a1fd389b6f6c12f1c874774a7a4c295ee3a25c2343b00c9b27b0", func := "cambium/cambiumlaw07.SuperNewer", spec := "superNewer", unfollowed := true, recurses := true, apart := false, narrowed := true }
def SuperNewerUptoSaid : Prop := superNewerUptoRow.holds Try.pinned (OpenSpec.upto superNewerSpec)

/-- 'cambiumlaw07.SuperLabels', WHERE WHAT IT READS IS OF BULK AT MOST 1048576: true; the input reads as it did. -/
def superLabelsUptoRow : OpenClaim := { program := "ytjpebckmjlmkmaa", sum := "d33202e15e32a1fd389b6f6c12f1c874774a7a4c295ee3a25c2343b00c9b27b0", func := "cambium/cambiumlaw07.SuperLabels", spec := "superLabels", unfollowed := true, recurses := true, apart := false, narrowed := true }
def SuperLabelsUptoSaid : Prop := superLabelsUptoRow.holds Try.pinned (OpenSpec.upto superLabelsSpec)

/-- 'cambiumlaw07.SuperAreas', WHERE WHAT IT READS IS OF BULK AT MOST 1048576: true; the input reads as it did. -/
def superAreasUptoRow : OpenClaim := { program := "ytjpebckmjlmkmaa", sum := "d33202e15e32a1fd389b6f6c12f1c874774a7a4c295ee3a25c2343b00c9b27b0", func := "cambium/cambiumlaw07.SuperAreas", spec := "superAreas", unfollowed := true, recurses := true, apart := false, narrowed := true }
def SuperAreasUptoSaid : Prop := superAreasUptoRow.holds Try.pinned (OpenSpec.upto superAreasSpec)

/-- 'cambiumlaw07.SuperWrites', WHERE WHAT IT READS IS OF BULK AT MOST 1048576: true; the input reads as it did. -/
def superWritesUptoRow : OpenClaim := { program := "ytjpebckmjlmkmaa", sum := "d33202e15e32a1fd389b6f6c12f1c874774a7a4c295ee3a25c2343b00c9b27b0", func := "cambium/cambiumlaw07.SuperWrites", spec := "superWrites", unfollowed := true, recurses := true, apart := false, narrowed := true }
def SuperWritesUptoSaid : Prop := superWritesUptoRow.holds Try.pinned (OpenSpec.upto superWritesSpec)

/-- 'cambiumlaw07.SuperBack', WHERE WHAT IT READS IS OF BULK AT MOST 1048576: true; the input reads as it did. -/
def superBackUptoRow : OpenClaim := { program := "ytjpebckmjlmkmaa", sum := "d33202e15e32a1fd389b6f6c12f1c874774a7a4c295ee3a25c2343b00c9b27b0", func := "cambium/cambiumlaw07.SuperBack", spec := "superBack", unfollowed := true, recurses := true, apart := false, narrowed := true }
def SuperBackUptoSaid : Prop := superBackUptoRow.holds Try.pinned (OpenSpec.upto superBackSpec)

/-- 'cambiumlaw07.SuperChooses', WHERE WHAT IT READS IS OF BULK AT MOST 1048576: true; the input reads as it did. -/
def superChoosesUptoRow : OpenClaim := { program := "ytjpebckmjlmkmaa", sum := "d33202e15e32a1fd389b6f6c12f1c874774a7a4c295ee3a25c2343b00c9b27b0", func := "cambium/cambiumlaw07.SuperChooses", spec := "superChooses", unfollowed := true, recurses := true, apart := false, narrowed := true }
def SuperChoosesUptoSaid : Prop := superChoosesUptoRow.holds Try.pinned (OpenSpec.upto superChoosesSpec)

end Rows
end Go.Proofs.Ytjpebckmjlmkmaa
