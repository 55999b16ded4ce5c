/-
  NARROWER THAN 'FOR EVERY INPUT', by the rows' own cells (each row's printed sentence says how): StreamPaths: laid · StreamWithin: laid · StreamPuts: laid · StreamTakes: laid · StreamBack: laid · StreamTurned: laid.
  DERIVED. THE GIVEN ROWS OF THIS SEAT. 6 by the template 'for every input the law returns true; each argument reads behind the call as it read before'; 0 by the template 'total and deterministic' (their statements: YtgklipfeheohkaaDoorTotals.lean).
  GIVEN WITH THE SEED: the statements are not yours to turn. If you find one false, say at which input.
  Laid BY PROGRAM, IN A SANDBOX (cutbox-rows.mjs): the forced cells as the released guide's own fill.sh prints them over the translation 7cc808a1c66cfc39… (all of the seat's roots in one cut). By AI agents, Wed Nov 11 2026. No macro, syntax, notation, axiom, sorry.
-/
import Derived.Test.YtgklipfeheohkaaDoorChecked
import GoSem.PinnedTables
import GoSem.Claim
import GoSem.ClaimJoined
import GoSem.ClaimMapViews
import Derived.JoinedTies
import Derived.KernelRfl
namespace Go.Proofs.YtgklipfeheohkaaDoor
/- THE CELL 'sum', in the pinned program and in every row, IS THE sha256 OF THE DUMP (.gsa) THAT YtgklipfeheohkaaDoorProg.lean LOADS. Nothing in Lean hashes anything: it is a label: what it is worth is what the hold of that sum in a sandbox is worth. -/
noncomputable def Tryd.pinned : Pinned := { name := "ytgklipfeheohkaadoor", sum := "7cc808a1c66cfc39bcbf5c6bbf0a02238a679b068cf366a46ef97881003fc402", checked := Tryd.checked }
namespace Rows
def none {H : Type} : Left H := { results := [], args := [] }

/- WHAT THE LISTED PACKAGE-LEVEL VARIABLES READ AS WHEN THE CALL BEGINS. Each datum BY PROGRAM (the guide's laid-datum.mjs) off the statement by which the dump's own 'gosem.cut.vars' lays the variable. In a bare row this is a premise. The card (YtgklipfeheohkaaDoorCards.lean) ties it to the program's text. -/
def laid_unicode_utf8_acceptRanges {H : Type} : DataW H := .agg [.agg [.lit (.int .u8 128), .lit (.int .u8 191)], .agg [.lit (.int .u8 160), .lit (.int .u8 191)], .agg [.lit (.int .u8 128), .lit (.int .u8 159)], .agg [.lit (.int .u8 144), .lit (.int .u8 191)], .agg [.lit (.int .u8 128), .lit (.int .u8 143)], .agg [.lit (.int .u8 0), .lit (.int .u8 0)], .agg [.lit (.int .u8 0), .lit (.int .u8 0)], .agg [.lit (.int .u8 0), .lit (.int .u8 0)], .agg [.lit (.int .u8 0), .lit (.int .u8 0)], .agg [.lit (.int .u8 0), .lit (.int .u8 0)], .agg [.lit (.int .u8 0), .lit (.int .u8 0)], .agg [.lit (.int .u8 0), .lit (.int .u8 0)], .agg [.lit (.int .u8 0), .lit (.int .u8 0)], .agg [.lit (.int .u8 0), .lit (.int .u8 0)], .agg [.lit (.int .u8 0), .lit (.int .u8 0)], .agg [.lit (.int .u8 0), .lit (.int .u8 0)]]
/-- One of Go's own tables, pinned by name: the form's constant. -/
def laid_unicode_utf8_first : DataW Unit := Go.Pinned.utf8First

/-- 'cambiumlaw19.StreamPaths': WHATEVER THE INPUT: true; the input reads as it did. -/
def streamPathsSpec : ChangeSpec := { name := "streamPaths", fn := fun _ => fun
  | [d1, d2] => { results := [.lit (.bool true)], args := [d1, d2] }
  | _ => none }
def streamPathsRow : OpenClaim := { program := "ytgklipfeheohkaadoor", sum := "7cc808a1c66cfc39bcbf5c6bbf0a02238a679b068cf366a46ef97881003fc402", func := "cambium/cambiumlaw19.StreamPaths", spec := "streamPaths", inPlace := ["internal/bytealg.CountString", "internal/bytealg.IndexByteString", "internal/bytealg.IndexString", "internal/abi.NoEscape", "internal/bytealg.MakeNoZero"], named := ["unicode/utf8.first", "unicode/utf8.acceptRanges", "internal/bytealg.MaxLen"], apart := false, laid := [("unicode/utf8.acceptRanges", laid_unicode_utf8_acceptRanges), ("unicode/utf8.first", laid_unicode_utf8_first)] }
def StreamPathsSaid : Prop := streamPathsRow.holds Tryd.pinned (OpenSpec.ofChange streamPathsSpec)

/-- ITS FALSE NEIGHBOUR: 'it returns false'. Refute it at one input. -/
def streamPathsWrong : ChangeSpec := { name := "streamPaths", fn := fun _ => fun
  | [d1, d2] => { results := [.lit (.bool false)], args := [d1, d2] }
  | _ => none }
def StreamPathsWrongFalsely : Prop := streamPathsRow.holds Tryd.pinned (OpenSpec.ofChange streamPathsWrong)

/-- 'cambiumlaw19.StreamWithin': WHATEVER THE INPUT: true; the input reads as it did. -/
def streamWithinSpec : ChangeSpec := { name := "streamWithin", fn := fun _ => fun
  | [d] => { results := [.lit (.bool true)], args := [d] }
  | _ => none }
def streamWithinRow : OpenClaim := { program := "ytgklipfeheohkaadoor", sum := "7cc808a1c66cfc39bcbf5c6bbf0a02238a679b068cf366a46ef97881003fc402", func := "cambium/cambiumlaw19.StreamWithin", spec := "streamWithin", inPlace := ["internal/bytealg.CountString", "internal/bytealg.IndexByteString", "internal/bytealg.IndexString", "internal/abi.NoEscape", "internal/bytealg.MakeNoZero"], named := ["unicode/utf8.first", "unicode/utf8.acceptRanges", "internal/bytealg.MaxLen"], apart := false, laid := [("unicode/utf8.acceptRanges", laid_unicode_utf8_acceptRanges), ("unicode/utf8.first", laid_unicode_utf8_first)] }
def StreamWithinSaid : Prop := streamWithinRow.holds Tryd.pinned (OpenSpec.ofChange streamWithinSpec)

/-- ITS FALSE NEIGHBOUR: 'it returns false'. Refute it at one input. -/
def streamWithinWrong : ChangeSpec := { name := "streamWithin", fn := fun _ => fun
  | [d] => { results := [.lit (.bool false)], args := [d] }
  | _ => none }
def StreamWithinWrongFalsely : Prop := streamWithinRow.holds Tryd.pinned (OpenSpec.ofChange streamWithinWrong)

/-- 'cambiumlaw19.StreamPuts': WHATEVER THE INPUT: true; the input reads as it did. -/
def streamPutsSpec : ChangeSpec := { name := "streamPuts", fn := fun _ => fun
  | [d1, d2] => { results := [.lit (.bool true)], args := [d1, d2] }
  | _ => none }
def streamPutsRow : OpenClaim := { program := "ytgklipfeheohkaadoor", sum := "7cc808a1c66cfc39bcbf5c6bbf0a02238a679b068cf366a46ef97881003fc402", func := "cambium/cambiumlaw19.StreamPuts", spec := "streamPuts", inPlace := ["internal/bytealg.CountString", "internal/bytealg.IndexByteString", "internal/bytealg.IndexString"], named := ["unicode/utf8.first", "unicode/utf8.acceptRanges", "internal/bytealg.MaxLen"], apart := false, laid := [("unicode/utf8.acceptRanges", laid_unicode_utf8_acceptRanges), ("unicode/utf8.first", laid_unicode_utf8_first)] }
def StreamPutsSaid : Prop := streamPutsRow.holds Tryd.pinned (OpenSpec.ofChange streamPutsSpec)

/-- ITS FALSE NEIGHBOUR: 'it returns false'. Refute it at one input. -/
def streamPutsWrong : ChangeSpec := { name := "streamPuts", fn := fun _ => fun
  | [d1, d2] => { results := [.lit (.bool false)], args := [d1, d2] }
  | _ => none }
def StreamPutsWrongFalsely : Prop := streamPutsRow.holds Tryd.pinned (OpenSpec.ofChange streamPutsWrong)

/-- 'cambiumlaw19.StreamTakes': WHATEVER THE INPUT: true; the input reads as it did. -/
def streamTakesSpec : ChangeSpec := { name := "streamTakes", fn := fun _ => fun
  | [d] => { results := [.lit (.bool true)], args := [d] }
  | _ => none }
def streamTakesRow : OpenClaim := { program := "ytgklipfeheohkaadoor", sum := "7cc808a1c66cfc39bcbf5c6bbf0a02238a679b068cf366a46ef97881003fc402", func := "cambium/cambiumlaw19.StreamTakes", spec := "streamTakes", inPlace := ["internal/bytealg.CountString", "internal/bytealg.IndexByteString", "internal/bytealg.IndexString"], named := ["unicode/utf8.first", "unicode/utf8.acceptRanges", "internal/bytealg.MaxLen"], apart := false, laid := [("unicode/utf8.acceptRanges", laid_unicode_utf8_acceptRanges), ("unicode/utf8.first", laid_unicode_utf8_first)] }
def StreamTakesSaid : Prop := streamTakesRow.holds Tryd.pinned (OpenSpec.ofChange streamTakesSpec)

/-- ITS FALSE NEIGHBOUR: 'it returns false'. Refute it at one input. -/
def streamTakesWrong : ChangeSpec := { name := "streamTakes", fn := fun _ => fun
  | [d] => { results := [.lit (.bool false)], args := [d] }
  | _ => none }
def StreamTakesWrongFalsely : Prop := streamTakesRow.holds Tryd.pinned (OpenSpec.ofChange streamTakesWrong)

/-- 'cambiumlaw19.StreamBack': WHATEVER THE INPUT: true; the input reads as it did. -/
def streamBackSpec : ChangeSpec := { name := "streamBack", fn := fun _ => fun
  | [d1, d2] => { results := [.lit (.bool true)], args := [d1, d2] }
  | _ => none }
def streamBackRow : OpenClaim := { program := "ytgklipfeheohkaadoor", sum := "7cc808a1c66cfc39bcbf5c6bbf0a02238a679b068cf366a46ef97881003fc402", func := "cambium/cambiumlaw19.StreamBack", spec := "streamBack", inPlace := ["internal/bytealg.CountString", "internal/bytealg.IndexByteString", "internal/bytealg.IndexString"], named := ["unicode/utf8.first", "unicode/utf8.acceptRanges", "internal/bytealg.MaxLen"], apart := false, laid := [("unicode/utf8.acceptRanges", laid_unicode_utf8_acceptRanges), ("unicode/utf8.first", laid_unicode_utf8_first)] }
def StreamBackSaid : Prop := streamBackRow.holds Tryd.pinned (OpenSpec.ofChange streamBackSpec)

/-- ITS FALSE NEIGHBOUR: 'it returns false'. Refute it at one input. -/
def streamBackWrong : ChangeSpec := { name := "streamBack", fn := fun _ => fun
  | [d1, d2] => { results := [.lit (.bool false)], args := [d1, d2] }
  | _ => none }
def StreamBackWrongFalsely : Prop := streamBackRow.holds Tryd.pinned (OpenSpec.ofChange streamBackWrong)

/-- 'cambiumlaw19.StreamTurned': WHATEVER THE INPUT: true; the input reads as it did. -/
def streamTurnedSpec : ChangeSpec := { name := "streamTurned", fn := fun _ => fun
  | [d1, d2, d3] => { results := [.lit (.bool true)], args := [d1, d2, d3] }
  | _ => none }
def streamTurnedRow : OpenClaim := { program := "ytgklipfeheohkaadoor", sum := "7cc808a1c66cfc39bcbf5c6bbf0a02238a679b068cf366a46ef97881003fc402", func := "cambium/cambiumlaw19.StreamTurned", spec := "streamTurned", inPlace := ["internal/bytealg.CountString", "internal/bytealg.IndexByteString", "internal/bytealg.IndexString"], named := ["unicode/utf8.first", "unicode/utf8.acceptRanges", "internal/bytealg.MaxLen"], apart := false, laid := [("unicode/utf8.acceptRanges", laid_unicode_utf8_acceptRanges), ("unicode/utf8.first", laid_unicode_utf8_first)] }
def StreamTurnedSaid : Prop := streamTurnedRow.holds Tryd.pinned (OpenSpec.ofChange streamTurnedSpec)

/-- ITS FALSE NEIGHBOUR: 'it returns false'. Refute it at one input. -/
def streamTurnedWrong : ChangeSpec := { name := "streamTurned", fn := fun _ => fun
  | [d1, d2, d3] => { results := [.lit (.bool false)], args := [d1, d2, d3] }
  | _ => none }
def StreamTurnedWrongFalsely : Prop := streamTurnedRow.holds Tryd.pinned (OpenSpec.ofChange streamTurnedWrong)

/- THE SECOND FORM. 'bulk': how many values and letters a reading holds, each counted each time it is reached (what is shared counts as often as it is met; a slice's spare places count too). A statement '..UptoSaid' is the law's where the arguments, and the package variables that the reading takes, are together of bulk at most 1048576: NARROWER than '..Said'. Prove '..Said' where nothing that the law and all that it calls make is longer than what came in: it says more and counts as full. Else prove '..UptoSaid'. A law counts once. -/
mutual
def uptoBulk {H : Type} : DataW H → Nat
  | .lit (.string bytes) => bytes.length + 1
  | .lit _ => 1
  | .nil => 1
  | .ptr d => uptoBulk d + 1
  | .slice elems spare => uptoBulkAll elems + uptoBulkAll spare + 1
  | .agg parts => uptoBulkAll parts + 1
  | .iface _ d => uptoBulk d + 1
  | .map entries => uptoBulkEntries entries + 1
  | .held _ => 1
def uptoBulkAll {H : Type} : List (DataW H) → Nat
  | [] => 0
  | d :: r => uptoBulk d + uptoBulkAll r
def uptoBulkEntries {H : Type} : List (Lit × DataW H) → Nat
  | [] => 0
  | x :: r => uptoBulkEntry x + uptoBulkEntries r
def uptoBulkEntry {H : Type} : Lit × DataW H → Nat
  | (.string bytes, d) => bytes.length + uptoBulk d + 1
  | (_, d) => uptoBulk d + 1
 end
def uptoSmall : (H : Type) → List (DataW H) → Bool := fun _ ds => decide (uptoBulkAll ds ≤ 1048576)
def OpenSpec.upto (s : _root_.Go.ChangeSpec) : _root_.Go.OpenSpec := { _root_.Go.OpenSpec.ofChange s with cond := some uptoSmall }

/-- 'cambiumlaw19.StreamPaths', WHERE WHAT IT READS IS OF BULK AT MOST 1048576: true; the input reads as it did. -/
def streamPathsUptoRow : OpenClaim := { program := "ytgklipfeheohkaadoor", sum := "7cc808a1c66cfc39bcbf5c6bbf0a02238a679b068cf366a46ef97881003fc402", func := "cambium/cambiumlaw19.StreamPaths", spec := "streamPaths", inPlace := ["internal/bytealg.CountString", "internal/bytealg.IndexByteString", "internal/bytealg.IndexString", "internal/abi.NoEscape", "internal/bytealg.MakeNoZero"], named := ["unicode/utf8.first", "unicode/utf8.acceptRanges", "internal/bytealg.MaxLen"], apart := false, laid := [("unicode/utf8.acceptRanges", laid_unicode_utf8_acceptRanges), ("unicode/utf8.first", laid_unicode_utf8_first)], narrowed := true }
def StreamPathsUptoSaid : Prop := streamPathsUptoRow.holds Tryd.pinned (OpenSpec.upto streamPathsSpec)

/-- 'cambiumlaw19.StreamWithin', WHERE WHAT IT READS IS OF BULK AT MOST 1048576: true; the input reads as it did. -/
def streamWithinUptoRow : OpenClaim := { program := "ytgklipfeheohkaadoor", sum := "7cc808a1c66cfc39bcbf5c6bbf0a02238a679b068cf366a46ef97881003fc402", func := "cambium/cambiumlaw19.StreamWithin", spec := "streamWithin", inPlace := ["internal/bytealg.CountString", "internal/bytealg.IndexByteString", "internal/bytealg.IndexString", "internal/abi.NoEscape", "internal/bytealg.MakeNoZero"], named := ["unicode/utf8.first", "unicode/utf8.acceptRanges", "internal/bytealg.MaxLen"], apart := false, laid := [("unicode/utf8.acceptRanges", laid_unicode_utf8_acceptRanges), ("unicode/utf8.first", laid_unicode_utf8_first)], narrowed := true }
def StreamWithinUptoSaid : Prop := streamWithinUptoRow.holds Tryd.pinned (OpenSpec.upto streamWithinSpec)

/-- 'cambiumlaw19.StreamPuts', WHERE WHAT IT READS IS OF BULK AT MOST 1048576: true; the input reads as it did. -/
def streamPutsUptoRow : OpenClaim := { program := "ytgklipfeheohkaadoor", sum := "7cc808a1c66cfc39bcbf5c6bbf0a02238a679b068cf366a46ef97881003fc402", func := "cambium/cambiumlaw19.StreamPuts", spec := "streamPuts", inPlace := ["internal/bytealg.CountString", "internal/bytealg.IndexByteString", "internal/bytealg.IndexString"], named := ["unicode/utf8.first", "unicode/utf8.acceptRanges", "internal/bytealg.MaxLen"], apart := false, laid := [("unicode/utf8.acceptRanges", laid_unicode_utf8_acceptRanges), ("unicode/utf8.first", laid_unicode_utf8_first)], narrowed := true }
def StreamPutsUptoSaid : Prop := streamPutsUptoRow.holds Tryd.pinned (OpenSpec.upto streamPutsSpec)

/-- 'cambiumlaw19.StreamTakes', WHERE WHAT IT READS IS OF BULK AT MOST 1048576: true; the input reads as it did. -/
def streamTakesUptoRow : OpenClaim := { program := "ytgklipfeheohkaadoor", sum := "7cc808a1c66cfc39bcbf5c6bbf0a02238a679b068cf366a46ef97881003fc402", func := "cambium/cambiumlaw19.StreamTakes", spec := "streamTakes", inPlace := ["internal/bytealg.CountString", "internal/bytealg.IndexByteString", "internal/bytealg.IndexString"], named := ["unicode/utf8.first", "unicode/utf8.acceptRanges", "internal/bytealg.MaxLen"], apart := false, laid := [("unicode/utf8.acceptRanges", laid_unicode_utf8_acceptRanges), ("unicode/utf8.first", laid_unicode_utf8_first)], narrowed := true }
def StreamTakesUptoSaid : Prop := streamTakesUptoRow.holds Tryd.pinned (OpenSpec.upto streamTakesSpec)

/-- 'cambiumlaw19.StreamBack', WHERE WHAT IT READS IS OF BULK AT MOST 1048576: true; the input reads as it did. -/
def streamBackUptoRow : OpenClaim := { program := "ytgklipfeheohkaadoor", sum := "7cc808a1c66cfc39bcbf5c6bbf0a02238a679b068cf366a46ef97881003fc402", func := "cambium/cambiumlaw19.StreamBack", spec := "streamBack", inPlace := ["internal/bytealg.CountString", "internal/bytealg.IndexByteString", "internal/bytealg.IndexString"], named := ["unicode/utf8.first", "unicode/utf8.acceptRanges", "internal/bytealg.MaxLen"], apart := false, laid := [("unicode/utf8.acceptRanges", laid_unicode_utf8_acceptRanges), ("unicode/utf8.first", laid_unicode_utf8_first)], narrowed := true }
def StreamBackUptoSaid : Prop := streamBackUptoRow.holds Tryd.pinned (OpenSpec.upto streamBackSpec)

/-- 'cambiumlaw19.StreamTurned', WHERE WHAT IT READS IS OF BULK AT MOST 1048576: true; the input reads as it did. -/
def streamTurnedUptoRow : OpenClaim := { program := "ytgklipfeheohkaadoor", sum := "7cc808a1c66cfc39bcbf5c6bbf0a02238a679b068cf366a46ef97881003fc402", func := "cambium/cambiumlaw19.StreamTurned", spec := "streamTurned", inPlace := ["internal/bytealg.CountString", "internal/bytealg.IndexByteString", "internal/bytealg.IndexString"], named := ["unicode/utf8.first", "unicode/utf8.acceptRanges", "internal/bytealg.MaxLen"], apart := false, laid := [("unicode/utf8.acceptRanges", laid_unicode_utf8_acceptRanges), ("unicode/utf8.first", laid_unicode_utf8_first)], narrowed := true }
def StreamTurnedUptoSaid : Prop := streamTurnedUptoRow.holds Tryd.pinned (OpenSpec.upto streamTurnedSpec)

end Rows
end Go.Proofs.YtgklipfeheohkaaDoor
