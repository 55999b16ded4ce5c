/-
  DERIVED. GIVEN WITH THE SEED: THE CARDS: each row of YtafgfaimenccdaaDoorRows.lean that lists a variable, with what it lists TIED to the program's text (the seventh form; the later family's looks); each row that meets fmt, with fmt's text TOLD by the authors' own Lean function (tested against real Go, not proved from fmt's source: count such statements apart). THE CARD IS WHAT COUNTS. Prove the row's statement (the work); the ties are given (YtafgfaimenccdaaDoorTie.lean); close each card by the builder's one call (the guide's Derived/Test/ToyasCard.lean, 'card_holds'). Laid BY PROGRAM, IN A SANDBOX (cutbox-door.mjs). By AI agents, Wed Nov 11 2026. No macro, syntax, notation, axiom, sorry.
-/
import Derived.Test.YtafgfaimenccdaaDoorRows
import GoSem.ClaimSeven
namespace Go.Proofs.YtafgfaimenccdaaDoor
namespace Rows

/-- THE TIED CARD OF 'cambiumlaw14.NameValid'. -/
def nameValidCard : Claim7 := { stood := { row := nameValidRow, standIns := [], harness := (true, "9b04d4fc1353bda3d85d32396c3c9d96a5ad94389e20b82b0d59d61714cb13bb"), looks := false }, kinds := [], alts := [], laidByText := true, laidKinds := [.data, .pinned], laidTests := true, laidLooks := .later }
def NameValidCardSaid : Prop := Claim7.holds Tryd.pinned (.plain (OpenSpec.ofChange nameValidSpec)) nameValidCard

/-- THE TIED CARD OF 'cambiumlaw14.NameSplits'. -/
def nameSplitsCard : Claim7 := { stood := { row := nameSplitsRow, standIns := [], harness := (true, "9b04d4fc1353bda3d85d32396c3c9d96a5ad94389e20b82b0d59d61714cb13bb"), looks := false }, kinds := [], alts := [], laidByText := true, laidKinds := [.data, .pinned], laidTests := true, laidLooks := .later }
def NameSplitsCardSaid : Prop := Claim7.holds Tryd.pinned (.plain (OpenSpec.ofChange nameSplitsSpec)) nameSplitsCard

/-- THE TIED CARD OF 'cambiumlaw14.NameDepth'. -/
def nameDepthCard : Claim7 := { stood := { row := nameDepthRow, standIns := [], harness := (true, "9b04d4fc1353bda3d85d32396c3c9d96a5ad94389e20b82b0d59d61714cb13bb"), looks := false }, kinds := [], alts := [], laidByText := true, laidKinds := [.data, .pinned], laidTests := true, laidLooks := .later }
def NameDepthCardSaid : Prop := Claim7.holds Tryd.pinned (.plain (OpenSpec.ofChange nameDepthSpec)) nameDepthCard

/-- THE TIED CARD OF 'cambiumlaw14.NameParts'. -/
def namePartsCard : Claim7 := { stood := { row := namePartsRow, standIns := [], harness := (true, "9b04d4fc1353bda3d85d32396c3c9d96a5ad94389e20b82b0d59d61714cb13bb"), looks := false }, kinds := [], alts := [], laidByText := true, laidKinds := [.data, .pinned], laidTests := true, laidLooks := .later }
def NamePartsCardSaid : Prop := Claim7.holds Tryd.pinned (.plain (OpenSpec.ofChange namePartsSpec)) namePartsCard

/-- THE TIED CARD OF 'cambiumlaw14.NameBack'. -/
def nameBackCard : Claim7 := { stood := { row := nameBackRow, standIns := [], harness := (true, "9b04d4fc1353bda3d85d32396c3c9d96a5ad94389e20b82b0d59d61714cb13bb"), looks := false }, kinds := [], alts := [], laidByText := true, laidKinds := [.data, .pinned], laidTests := true, laidLooks := .later }
def NameBackCardSaid : Prop := Claim7.holds Tryd.pinned (.plain (OpenSpec.ofChange nameBackSpec)) nameBackCard

/-- THE TIED CARD OF 'cambiumlaw14.NameForm'. -/
def nameFormCard : Claim7 := { stood := { row := nameFormRow, standIns := [], harness := (true, "9b04d4fc1353bda3d85d32396c3c9d96a5ad94389e20b82b0d59d61714cb13bb"), looks := false }, kinds := [], alts := [], laidByText := true, laidKinds := [.data, .pinned], laidTests := true, laidLooks := .later }
def NameFormCardSaid : Prop := Claim7.holds Tryd.pinned (.plain (OpenSpec.ofChange nameFormSpec)) nameFormCard

/-- THE TIED CARD OF 'cambiumlaw14.NameJoins'. -/
def nameJoinsCard : Claim7 := { stood := { row := nameJoinsRow, standIns := [], harness := (true, "9b04d4fc1353bda3d85d32396c3c9d96a5ad94389e20b82b0d59d61714cb13bb"), looks := false }, kinds := [], alts := [], laidByText := true, laidKinds := [.data, .pinned], laidTests := true, laidLooks := .later }
def NameJoinsCardSaid : Prop := Claim7.holds Tryd.pinned (.plain (OpenSpec.ofChange nameJoinsSpec)) nameJoinsCard

/-- THE SECOND FORM's CARD OF 'cambiumlaw14.NameValid'. -/
def nameValidUptoCard : Claim7 := { stood := { row := nameValidUptoRow, standIns := [], harness := (true, "9b04d4fc1353bda3d85d32396c3c9d96a5ad94389e20b82b0d59d61714cb13bb"), looks := false }, kinds := [], alts := [], laidByText := true, laidKinds := [.data, .pinned], laidTests := true, laidLooks := .later }
def NameValidUptoCardSaid : Prop := Claim7.holds Tryd.pinned (.plain (OpenSpec.upto nameValidSpec)) nameValidUptoCard

/-- THE SECOND FORM's CARD OF 'cambiumlaw14.NameSplits'. -/
def nameSplitsUptoCard : Claim7 := { stood := { row := nameSplitsUptoRow, standIns := [], harness := (true, "9b04d4fc1353bda3d85d32396c3c9d96a5ad94389e20b82b0d59d61714cb13bb"), looks := false }, kinds := [], alts := [], laidByText := true, laidKinds := [.data, .pinned], laidTests := true, laidLooks := .later }
def NameSplitsUptoCardSaid : Prop := Claim7.holds Tryd.pinned (.plain (OpenSpec.upto nameSplitsSpec)) nameSplitsUptoCard

/-- THE SECOND FORM's CARD OF 'cambiumlaw14.NameDepth'. -/
def nameDepthUptoCard : Claim7 := { stood := { row := nameDepthUptoRow, standIns := [], harness := (true, "9b04d4fc1353bda3d85d32396c3c9d96a5ad94389e20b82b0d59d61714cb13bb"), looks := false }, kinds := [], alts := [], laidByText := true, laidKinds := [.data, .pinned], laidTests := true, laidLooks := .later }
def NameDepthUptoCardSaid : Prop := Claim7.holds Tryd.pinned (.plain (OpenSpec.upto nameDepthSpec)) nameDepthUptoCard

/-- THE SECOND FORM's CARD OF 'cambiumlaw14.NameParts'. -/
def namePartsUptoCard : Claim7 := { stood := { row := namePartsUptoRow, standIns := [], harness := (true, "9b04d4fc1353bda3d85d32396c3c9d96a5ad94389e20b82b0d59d61714cb13bb"), looks := false }, kinds := [], alts := [], laidByText := true, laidKinds := [.data, .pinned], laidTests := true, laidLooks := .later }
def NamePartsUptoCardSaid : Prop := Claim7.holds Tryd.pinned (.plain (OpenSpec.upto namePartsSpec)) namePartsUptoCard

/-- THE SECOND FORM's CARD OF 'cambiumlaw14.NameBack'. -/
def nameBackUptoCard : Claim7 := { stood := { row := nameBackUptoRow, standIns := [], harness := (true, "9b04d4fc1353bda3d85d32396c3c9d96a5ad94389e20b82b0d59d61714cb13bb"), looks := false }, kinds := [], alts := [], laidByText := true, laidKinds := [.data, .pinned], laidTests := true, laidLooks := .later }
def NameBackUptoCardSaid : Prop := Claim7.holds Tryd.pinned (.plain (OpenSpec.upto nameBackSpec)) nameBackUptoCard

/-- THE SECOND FORM's CARD OF 'cambiumlaw14.NameForm'. -/
def nameFormUptoCard : Claim7 := { stood := { row := nameFormUptoRow, standIns := [], harness := (true, "9b04d4fc1353bda3d85d32396c3c9d96a5ad94389e20b82b0d59d61714cb13bb"), looks := false }, kinds := [], alts := [], laidByText := true, laidKinds := [.data, .pinned], laidTests := true, laidLooks := .later }
def NameFormUptoCardSaid : Prop := Claim7.holds Tryd.pinned (.plain (OpenSpec.upto nameFormSpec)) nameFormUptoCard

/-- THE SECOND FORM's CARD OF 'cambiumlaw14.NameJoins'. -/
def nameJoinsUptoCard : Claim7 := { stood := { row := nameJoinsUptoRow, standIns := [], harness := (true, "9b04d4fc1353bda3d85d32396c3c9d96a5ad94389e20b82b0d59d61714cb13bb"), looks := false }, kinds := [], alts := [], laidByText := true, laidKinds := [.data, .pinned], laidTests := true, laidLooks := .later }
def NameJoinsUptoCardSaid : Prop := Claim7.holds Tryd.pinned (.plain (OpenSpec.upto nameJoinsSpec)) nameJoinsUptoCard
end Rows
end Go.Proofs.YtafgfaimenccdaaDoor
