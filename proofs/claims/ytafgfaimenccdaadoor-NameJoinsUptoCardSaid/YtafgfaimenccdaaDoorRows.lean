/-
  NARROWER THAN 'FOR EVERY INPUT', by the rows' own cells (each row's printed sentence says how): NameValid: laid · NameSplits: laid · NameDepth: laid · NameParts: laid · NameBack: laid · NameForm: laid · NameJoins: laid.
  DERIVED. THE GIVEN ROWS OF THIS SEAT. 7 by the template 'for every input the law returns true; each argument reads behind the call as it read before'; 0 by the template 'total and deterministic' (their statements: YtafgfaimenccdaaDoorTotals.lean).
  GIVEN WITH THE SEED: the statements are not yours to turn. If you find one false, say at which input.
  Laid BY PROGRAM, IN A SANDBOX (cutbox-rows.mjs): the forced cells as the released guide's own fill.sh prints them over the translation 354960fc315373a8… (all of the seat's roots in one cut). By AI agents, Wed Nov 11 2026. No macro, syntax, notation, axiom, sorry.
-/
import Derived.Test.YtafgfaimenccdaaDoorChecked
import GoSem.PinnedTables
import GoSem.Claim
import GoSem.ClaimJoined
import GoSem.ClaimMapViews
import Derived.JoinedTies
import Derived.KernelRfl
namespace Go.Proofs.YtafgfaimenccdaaDoor
/- THE CELL 'sum', in the pinned program and in every row, IS THE sha256 OF THE DUMP (.gsa) THAT YtafgfaimenccdaaDoorProg.lean LOADS. Nothing in Lean hashes anything: it is a label: what it is worth is what the hold of that sum in a sandbox is worth. -/
noncomputable def Tryd.pinned : Pinned := { name := "ytafgfaimenccdaadoor", sum := "354960fc315373a8206eb594e350a7b4fa9aa8c7d175565960ca5ad32f27620b", checked := Tryd.checked }
namespace Rows
def none {H : Type} : Left H := { results := [], args := [] }

/- WHAT THE LISTED PACKAGE-LEVEL VARIABLES READ AS WHEN THE CALL BEGINS. Each datum BY PROGRAM (the guide's laid-datum.mjs) off the statement by which the dump's own 'gosem.cut.vars' lays the variable. In a bare row this is a premise. The card (YtafgfaimenccdaaDoorCards.lean) ties it to the program's text. -/
def laid_unicode_utf8_acceptRanges {H : Type} : DataW H := .agg [.agg [.lit (.int .u8 128), .lit (.int .u8 191)], .agg [.lit (.int .u8 160), .lit (.int .u8 191)], .agg [.lit (.int .u8 128), .lit (.int .u8 159)], .agg [.lit (.int .u8 144), .lit (.int .u8 191)], .agg [.lit (.int .u8 128), .lit (.int .u8 143)], .agg [.lit (.int .u8 0), .lit (.int .u8 0)], .agg [.lit (.int .u8 0), .lit (.int .u8 0)], .agg [.lit (.int .u8 0), .lit (.int .u8 0)], .agg [.lit (.int .u8 0), .lit (.int .u8 0)], .agg [.lit (.int .u8 0), .lit (.int .u8 0)], .agg [.lit (.int .u8 0), .lit (.int .u8 0)], .agg [.lit (.int .u8 0), .lit (.int .u8 0)], .agg [.lit (.int .u8 0), .lit (.int .u8 0)], .agg [.lit (.int .u8 0), .lit (.int .u8 0)], .agg [.lit (.int .u8 0), .lit (.int .u8 0)], .agg [.lit (.int .u8 0), .lit (.int .u8 0)]]
/-- One of Go's own tables, pinned by name: the form's constant. -/
def laid_unicode_utf8_first : DataW Unit := Go.Pinned.utf8First

/-- 'cambiumlaw14.NameValid': WHATEVER THE INPUT: true; the input reads as it did. -/
def nameValidSpec : ChangeSpec := { name := "nameValid", fn := fun _ => fun
  | [d] => { results := [.lit (.bool true)], args := [d] }
  | _ => none }
def nameValidRow : OpenClaim := { program := "ytafgfaimenccdaadoor", sum := "354960fc315373a8206eb594e350a7b4fa9aa8c7d175565960ca5ad32f27620b", func := "cambium/cambiumlaw14.NameValid", spec := "nameValid", inPlace := ["internal/bytealg.CountString", "internal/bytealg.IndexByteString", "internal/bytealg.IndexString"], named := ["unicode/utf8.first", "unicode/utf8.acceptRanges", "internal/bytealg.MaxLen"], apart := false, laid := [("unicode/utf8.acceptRanges", laid_unicode_utf8_acceptRanges), ("unicode/utf8.first", laid_unicode_utf8_first)] }
def NameValidSaid : Prop := nameValidRow.holds Tryd.pinned (OpenSpec.ofChange nameValidSpec)

/-- ITS FALSE NEIGHBOUR: 'it returns false'. Refute it at one input. -/
def nameValidWrong : ChangeSpec := { name := "nameValid", fn := fun _ => fun
  | [d] => { results := [.lit (.bool false)], args := [d] }
  | _ => none }
def NameValidWrongFalsely : Prop := nameValidRow.holds Tryd.pinned (OpenSpec.ofChange nameValidWrong)

/-- 'cambiumlaw14.NameSplits': WHATEVER THE INPUT: true; the input reads as it did. -/
def nameSplitsSpec : ChangeSpec := { name := "nameSplits", fn := fun _ => fun
  | [d] => { results := [.lit (.bool true)], args := [d] }
  | _ => none }
def nameSplitsRow : OpenClaim := { program := "ytafgfaimenccdaadoor", sum := "354960fc315373a8206eb594e350a7b4fa9aa8c7d175565960ca5ad32f27620b", func := "cambium/cambiumlaw14.NameSplits", spec := "nameSplits", inPlace := ["internal/bytealg.CountString", "internal/bytealg.IndexByteString", "internal/bytealg.IndexString"], named := ["unicode/utf8.first", "unicode/utf8.acceptRanges", "internal/bytealg.MaxLen"], apart := false, laid := [("unicode/utf8.acceptRanges", laid_unicode_utf8_acceptRanges), ("unicode/utf8.first", laid_unicode_utf8_first)] }
def NameSplitsSaid : Prop := nameSplitsRow.holds Tryd.pinned (OpenSpec.ofChange nameSplitsSpec)

/-- ITS FALSE NEIGHBOUR: 'it returns false'. Refute it at one input. -/
def nameSplitsWrong : ChangeSpec := { name := "nameSplits", fn := fun _ => fun
  | [d] => { results := [.lit (.bool false)], args := [d] }
  | _ => none }
def NameSplitsWrongFalsely : Prop := nameSplitsRow.holds Tryd.pinned (OpenSpec.ofChange nameSplitsWrong)

/-- 'cambiumlaw14.NameDepth': WHATEVER THE INPUT: true; the input reads as it did. -/
def nameDepthSpec : ChangeSpec := { name := "nameDepth", fn := fun _ => fun
  | [d1, d2, d3] => { results := [.lit (.bool true)], args := [d1, d2, d3] }
  | _ => none }
def nameDepthRow : OpenClaim := { program := "ytafgfaimenccdaadoor", sum := "354960fc315373a8206eb594e350a7b4fa9aa8c7d175565960ca5ad32f27620b", func := "cambium/cambiumlaw14.NameDepth", spec := "nameDepth", inPlace := ["internal/bytealg.CountString", "internal/bytealg.IndexByteString", "internal/bytealg.IndexString"], named := ["unicode/utf8.first", "unicode/utf8.acceptRanges", "internal/bytealg.MaxLen"], apart := false, laid := [("unicode/utf8.acceptRanges", laid_unicode_utf8_acceptRanges), ("unicode/utf8.first", laid_unicode_utf8_first)] }
def NameDepthSaid : Prop := nameDepthRow.holds Tryd.pinned (OpenSpec.ofChange nameDepthSpec)

/-- ITS FALSE NEIGHBOUR: 'it returns false'. Refute it at one input. -/
def nameDepthWrong : ChangeSpec := { name := "nameDepth", fn := fun _ => fun
  | [d1, d2, d3] => { results := [.lit (.bool false)], args := [d1, d2, d3] }
  | _ => none }
def NameDepthWrongFalsely : Prop := nameDepthRow.holds Tryd.pinned (OpenSpec.ofChange nameDepthWrong)

/-- 'cambiumlaw14.NameParts': WHATEVER THE INPUT: true; the input reads as it did. -/
def namePartsSpec : ChangeSpec := { name := "nameParts", fn := fun _ => fun
  | [d] => { results := [.lit (.bool true)], args := [d] }
  | _ => none }
def namePartsRow : OpenClaim := { program := "ytafgfaimenccdaadoor", sum := "354960fc315373a8206eb594e350a7b4fa9aa8c7d175565960ca5ad32f27620b", func := "cambium/cambiumlaw14.NameParts", spec := "nameParts", inPlace := ["internal/bytealg.CountString", "internal/bytealg.IndexByteString", "internal/bytealg.IndexString"], named := ["unicode/utf8.first", "unicode/utf8.acceptRanges", "internal/bytealg.MaxLen"], apart := false, laid := [("unicode/utf8.acceptRanges", laid_unicode_utf8_acceptRanges), ("unicode/utf8.first", laid_unicode_utf8_first)] }
def NamePartsSaid : Prop := namePartsRow.holds Tryd.pinned (OpenSpec.ofChange namePartsSpec)

/-- ITS FALSE NEIGHBOUR: 'it returns false'. Refute it at one input. -/
def namePartsWrong : ChangeSpec := { name := "nameParts", fn := fun _ => fun
  | [d] => { results := [.lit (.bool false)], args := [d] }
  | _ => none }
def NamePartsWrongFalsely : Prop := namePartsRow.holds Tryd.pinned (OpenSpec.ofChange namePartsWrong)

/-- 'cambiumlaw14.NameBack': WHATEVER THE INPUT: true; the input reads as it did. -/
def nameBackSpec : ChangeSpec := { name := "nameBack", fn := fun _ => fun
  | [d1, d2] => { results := [.lit (.bool true)], args := [d1, d2] }
  | _ => none }
def nameBackRow : OpenClaim := { program := "ytafgfaimenccdaadoor", sum := "354960fc315373a8206eb594e350a7b4fa9aa8c7d175565960ca5ad32f27620b", func := "cambium/cambiumlaw14.NameBack", spec := "nameBack", inPlace := ["internal/bytealg.CountString", "internal/bytealg.IndexByteString", "internal/bytealg.IndexString", "internal/abi.NoEscape", "internal/bytealg.MakeNoZero"], named := ["unicode/utf8.first", "unicode/utf8.acceptRanges", "internal/bytealg.MaxLen"], apart := false, laid := [("unicode/utf8.acceptRanges", laid_unicode_utf8_acceptRanges), ("unicode/utf8.first", laid_unicode_utf8_first)] }
def NameBackSaid : Prop := nameBackRow.holds Tryd.pinned (OpenSpec.ofChange nameBackSpec)

/-- ITS FALSE NEIGHBOUR: 'it returns false'. Refute it at one input. -/
def nameBackWrong : ChangeSpec := { name := "nameBack", fn := fun _ => fun
  | [d1, d2] => { results := [.lit (.bool false)], args := [d1, d2] }
  | _ => none }
def NameBackWrongFalsely : Prop := nameBackRow.holds Tryd.pinned (OpenSpec.ofChange nameBackWrong)

/-- 'cambiumlaw14.NameForm': WHATEVER THE INPUT: true; the input reads as it did. -/
def nameFormSpec : ChangeSpec := { name := "nameForm", fn := fun _ => fun
  | [d] => { results := [.lit (.bool true)], args := [d] }
  | _ => none }
def nameFormRow : OpenClaim := { program := "ytafgfaimenccdaadoor", sum := "354960fc315373a8206eb594e350a7b4fa9aa8c7d175565960ca5ad32f27620b", func := "cambium/cambiumlaw14.NameForm", spec := "nameForm", inPlace := ["internal/bytealg.CountString", "internal/bytealg.IndexByteString", "internal/bytealg.IndexString", "internal/abi.NoEscape", "internal/bytealg.MakeNoZero"], named := ["unicode/utf8.first", "unicode/utf8.acceptRanges", "internal/bytealg.MaxLen"], apart := false, laid := [("unicode/utf8.acceptRanges", laid_unicode_utf8_acceptRanges), ("unicode/utf8.first", laid_unicode_utf8_first)] }
def NameFormSaid : Prop := nameFormRow.holds Tryd.pinned (OpenSpec.ofChange nameFormSpec)

/-- ITS FALSE NEIGHBOUR: 'it returns false'. Refute it at one input. -/
def nameFormWrong : ChangeSpec := { name := "nameForm", fn := fun _ => fun
  | [d] => { results := [.lit (.bool false)], args := [d] }
  | _ => none }
def NameFormWrongFalsely : Prop := nameFormRow.holds Tryd.pinned (OpenSpec.ofChange nameFormWrong)

/-- 'cambiumlaw14.NameJoins': WHATEVER THE INPUT: true; the input reads as it did. -/
def nameJoinsSpec : ChangeSpec := { name := "nameJoins", fn := fun _ => fun
  | [d1, d2, d3] => { results := [.lit (.bool true)], args := [d1, d2, d3] }
  | _ => none }
def nameJoinsRow : OpenClaim := { program := "ytafgfaimenccdaadoor", sum := "354960fc315373a8206eb594e350a7b4fa9aa8c7d175565960ca5ad32f27620b", func := "cambium/cambiumlaw14.NameJoins", spec := "nameJoins", inPlace := ["internal/bytealg.CountString", "internal/bytealg.IndexByteString", "internal/bytealg.IndexString", "internal/abi.NoEscape", "internal/bytealg.MakeNoZero"], named := ["unicode/utf8.first", "unicode/utf8.acceptRanges", "internal/bytealg.MaxLen"], apart := false, laid := [("unicode/utf8.acceptRanges", laid_unicode_utf8_acceptRanges), ("unicode/utf8.first", laid_unicode_utf8_first)] }
def NameJoinsSaid : Prop := nameJoinsRow.holds Tryd.pinned (OpenSpec.ofChange nameJoinsSpec)

/-- ITS FALSE NEIGHBOUR: 'it returns false'. Refute it at one input. -/
def nameJoinsWrong : ChangeSpec := { name := "nameJoins", fn := fun _ => fun
  | [d1, d2, d3] => { results := [.lit (.bool false)], args := [d1, d2, d3] }
  | _ => none }
def NameJoinsWrongFalsely : Prop := nameJoinsRow.holds Tryd.pinned (OpenSpec.ofChange nameJoinsWrong)

/- THE SECOND FORM. 'bulk': how many values and letters a reading holds, each counted each time it is reached (what is shared counts as often as it is met; a slice's spare places count too). A statement '..UptoSaid' is the law's where the arguments, and the package variables that the reading takes, are together of bulk at most 1048576: NARROWER than '..Said'. Prove '..Said' where nothing that the law and all that it calls make is longer than what came in: it says more and counts as full. Else prove '..UptoSaid'. A law counts once. -/
mutual
def uptoBulk {H : Type} : DataW H → Nat
  | .lit (.string bytes) => bytes.length + 1
  | .lit _ => 1
  | .nil => 1
  | .ptr d => uptoBulk d + 1
  | .slice elems spare => uptoBulkAll elems + uptoBulkAll spare + 1
  | .agg parts => uptoBulkAll parts + 1
  | .iface _ d => uptoBulk d + 1
  | .map entries => uptoBulkEntries entries + 1
  | .held _ => 1
def uptoBulkAll {H : Type} : List (DataW H) → Nat
  | [] => 0
  | d :: r => uptoBulk d + uptoBulkAll r
def uptoBulkEntries {H : Type} : List (Lit × DataW H) → Nat
  | [] => 0
  | x :: r => uptoBulkEntry x + uptoBulkEntries r
def uptoBulkEntry {H : Type} : Lit × DataW H → Nat
  | (.string bytes, d) => bytes.length + uptoBulk d + 1
  | (_, d) => uptoBulk d + 1
 end
def uptoSmall : (H : Type) → List (DataW H) → Bool := fun _ ds => decide (uptoBulkAll ds ≤ 1048576)
def OpenSpec.upto (s : _root_.Go.ChangeSpec) : _root_.Go.OpenSpec := { _root_.Go.OpenSpec.ofChange s with cond := some uptoSmall }

/-- 'cambiumlaw14.NameValid', WHERE WHAT IT READS IS OF BULK AT MOST 1048576: true; the input reads as it did. -/
def nameValidUptoRow : OpenClaim := { program := "ytafgfaimenccdaadoor", sum := "354960fc315373a8206eb594e350a7b4fa9aa8c7d175565960ca5ad32f27620b", func := "cambium/cambiumlaw14.NameValid", spec := "nameValid", inPlace := ["internal/bytealg.CountString", "internal/bytealg.IndexByteString", "internal/bytealg.IndexString"], named := ["unicode/utf8.first", "unicode/utf8.acceptRanges", "internal/bytealg.MaxLen"], apart := false, laid := [("unicode/utf8.acceptRanges", laid_unicode_utf8_acceptRanges), ("unicode/utf8.first", laid_unicode_utf8_first)], narrowed := true }
def NameValidUptoSaid : Prop := nameValidUptoRow.holds Tryd.pinned (OpenSpec.upto nameValidSpec)

/-- 'cambiumlaw14.NameSplits', WHERE WHAT IT READS IS OF BULK AT MOST 1048576: true; the input reads as it did. -/
def nameSplitsUptoRow : OpenClaim := { program := "ytafgfaimenccdaadoor", sum := "354960fc315373a8206eb594e350a7b4fa9aa8c7d175565960ca5ad32f27620b", func := "cambium/cambiumlaw14.NameSplits", spec := "nameSplits", inPlace := ["internal/bytealg.CountString", "internal/bytealg.IndexByteString", "internal/bytealg.IndexString"], named := ["unicode/utf8.first", "unicode/utf8.acceptRanges", "internal/bytealg.MaxLen"], apart := false, laid := [("unicode/utf8.acceptRanges", laid_unicode_utf8_acceptRanges), ("unicode/utf8.first", laid_unicode_utf8_first)], narrowed := true }
def NameSplitsUptoSaid : Prop := nameSplitsUptoRow.holds Tryd.pinned (OpenSpec.upto nameSplitsSpec)

/-- 'cambiumlaw14.NameDepth', WHERE WHAT IT READS IS OF BULK AT MOST 1048576: true; the input reads as it did. -/
def nameDepthUptoRow : OpenClaim := { program := "ytafgfaimenccdaadoor", sum := "354960fc315373a8206eb594e350a7b4fa9aa8c7d175565960ca5ad32f27620b", func := "cambium/cambiumlaw14.NameDepth", spec := "nameDepth", inPlace := ["internal/bytealg.CountString", "internal/bytealg.IndexByteString", "internal/bytealg.IndexString"], named := ["unicode/utf8.first", "unicode/utf8.acceptRanges", "internal/bytealg.MaxLen"], apart := false, laid := [("unicode/utf8.acceptRanges", laid_unicode_utf8_acceptRanges), ("unicode/utf8.first", laid_unicode_utf8_first)], narrowed := true }
def NameDepthUptoSaid : Prop := nameDepthUptoRow.holds Tryd.pinned (OpenSpec.upto nameDepthSpec)

/-- 'cambiumlaw14.NameParts', WHERE WHAT IT READS IS OF BULK AT MOST 1048576: true; the input reads as it did. -/
def namePartsUptoRow : OpenClaim := { program := "ytafgfaimenccdaadoor", sum := "354960fc315373a8206eb594e350a7b4fa9aa8c7d175565960ca5ad32f27620b", func := "cambium/cambiumlaw14.NameParts", spec := "nameParts", inPlace := ["internal/bytealg.CountString", "internal/bytealg.IndexByteString", "internal/bytealg.IndexString"], named := ["unicode/utf8.first", "unicode/utf8.acceptRanges", "internal/bytealg.MaxLen"], apart := false, laid := [("unicode/utf8.acceptRanges", laid_unicode_utf8_acceptRanges), ("unicode/utf8.first", laid_unicode_utf8_first)], narrowed := true }
def NamePartsUptoSaid : Prop := namePartsUptoRow.holds Tryd.pinned (OpenSpec.upto namePartsSpec)

/-- 'cambiumlaw14.NameBack', WHERE WHAT IT READS IS OF BULK AT MOST 1048576: true; the input reads as it did. -/
def nameBackUptoRow : OpenClaim := { program := "ytafgfaimenccdaadoor", sum := "354960fc315373a8206eb594e350a7b4fa9aa8c7d175565960ca5ad32f27620b", func := "cambium/cambiumlaw14.NameBack", spec := "nameBack", inPlace := ["internal/bytealg.CountString", "internal/bytealg.IndexByteString", "internal/bytealg.IndexString", "internal/abi.NoEscape", "internal/bytealg.MakeNoZero"], named := ["unicode/utf8.first", "unicode/utf8.acceptRanges", "internal/bytealg.MaxLen"], apart := false, laid := [("unicode/utf8.acceptRanges", laid_unicode_utf8_acceptRanges), ("unicode/utf8.first", laid_unicode_utf8_first)], narrowed := true }
def NameBackUptoSaid : Prop := nameBackUptoRow.holds Tryd.pinned (OpenSpec.upto nameBackSpec)

/-- 'cambiumlaw14.NameForm', WHERE WHAT IT READS IS OF BULK AT MOST 1048576: true; the input reads as it did. -/
def nameFormUptoRow : OpenClaim := { program := "ytafgfaimenccdaadoor", sum := "354960fc315373a8206eb594e350a7b4fa9aa8c7d175565960ca5ad32f27620b", func := "cambium/cambiumlaw14.NameForm", spec := "nameForm", inPlace := ["internal/bytealg.CountString", "internal/bytealg.IndexByteString", "internal/bytealg.IndexString", "internal/abi.NoEscape", "internal/bytealg.MakeNoZero"], named := ["unicode/utf8.first", "unicode/utf8.acceptRanges", "internal/bytealg.MaxLen"], apart := false, laid := [("unicode/utf8.acceptRanges", laid_unicode_utf8_acceptRanges), ("unicode/utf8.first", laid_unicode_utf8_first)], narrowed := true }
def NameFormUptoSaid : Prop := nameFormUptoRow.holds Tryd.pinned (OpenSpec.upto nameFormSpec)

/-- 'cambiumlaw14.NameJoins', WHERE WHAT IT READS IS OF BULK AT MOST 1048576: true; the input reads as it did. -/
def nameJoinsUptoRow : OpenClaim := { program := "ytafgfaimenccdaadoor", sum := "354960fc315373a8206eb594e350a7b4fa9aa8c7d175565960ca5ad32f27620b", func := "cambium/cambiumlaw14.NameJoins", spec := "nameJoins", inPlace := ["internal/bytealg.CountString", "internal/bytealg.IndexByteString", "internal/bytealg.IndexString", "internal/abi.NoEscape", "internal/bytealg.MakeNoZero"], named := ["unicode/utf8.first", "unicode/utf8.acceptRanges", "internal/bytealg.MaxLen"], apart := false, laid := [("unicode/utf8.acceptRanges", laid_unicode_utf8_acceptRanges), ("unicode/utf8.first", laid_unicode_utf8_first)], narrowed := true }
def NameJoinsUptoSaid : Prop := nameJoinsUptoRow.holds Tryd.pinned (OpenSpec.upto nameJoinsSpec)

end Rows
end Go.Proofs.YtafgfaimenccdaaDoor
