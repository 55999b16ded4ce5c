/-
  DERIVED. GIVEN WITH THE SEED: THE CARDS: each row of YtgklipfeheohkaaDoorRows.lean that lists a variable, with what it lists TIED to the program's text (the seventh form; the later family's looks); each row that meets fmt, with fmt's text TOLD by the authors' own Lean function (tested against real Go, not proved from fmt's source: count such statements apart). THE CARD IS WHAT COUNTS. Prove the row's statement (the work); the ties are given (YtgklipfeheohkaaDoorTie.lean); close each card by the builder's one call (the guide's Derived/Test/ToyasCard.lean, 'card_holds'). Laid BY PROGRAM, IN A SANDBOX (cutbox-door.mjs). By AI agents, Wed Nov 11 2026. No macro, syntax, notation, axiom, sorry.
-/
import Derived.Test.YtgklipfeheohkaaDoorRows
import GoSem.ClaimSeven
namespace Go.Proofs.YtgklipfeheohkaaDoor
namespace Rows

/-- THE TIED CARD OF 'cambiumlaw19.StreamPaths'. -/
def streamPathsCard : Claim7 := { stood := { row := streamPathsRow, standIns := [], harness := (true, "34a8e05e13f2c2a87ca0598166ddaa5ea248cc132e21f42f556cc79c55d3b36b"), looks := false }, kinds := [], alts := [], laidByText := true, laidKinds := [.data, .pinned], laidTests := true, laidLooks := .later }
def StreamPathsCardSaid : Prop := Claim7.holds Tryd.pinned (.plain (OpenSpec.ofChange streamPathsSpec)) streamPathsCard

/-- THE TIED CARD OF 'cambiumlaw19.StreamWithin'. -/
def streamWithinCard : Claim7 := { stood := { row := streamWithinRow, standIns := [], harness := (true, "34a8e05e13f2c2a87ca0598166ddaa5ea248cc132e21f42f556cc79c55d3b36b"), looks := false }, kinds := [], alts := [], laidByText := true, laidKinds := [.data, .pinned], laidTests := true, laidLooks := .later }
def StreamWithinCardSaid : Prop := Claim7.holds Tryd.pinned (.plain (OpenSpec.ofChange streamWithinSpec)) streamWithinCard

/-- THE TIED CARD OF 'cambiumlaw19.StreamPuts'. -/
def streamPutsCard : Claim7 := { stood := { row := streamPutsRow, standIns := [], harness := (true, "34a8e05e13f2c2a87ca0598166ddaa5ea248cc132e21f42f556cc79c55d3b36b"), looks := false }, kinds := [], alts := [], laidByText := true, laidKinds := [.data, .pinned], laidTests := true, laidLooks := .later }
def StreamPutsCardSaid : Prop := Claim7.holds Tryd.pinned (.plain (OpenSpec.ofChange streamPutsSpec)) streamPutsCard

/-- THE TIED CARD OF 'cambiumlaw19.StreamTakes'. -/
def streamTakesCard : Claim7 := { stood := { row := streamTakesRow, standIns := [], harness := (true, "34a8e05e13f2c2a87ca0598166ddaa5ea248cc132e21f42f556cc79c55d3b36b"), looks := false }, kinds := [], alts := [], laidByText := true, laidKinds := [.data, .pinned], laidTests := true, laidLooks := .later }
def StreamTakesCardSaid : Prop := Claim7.holds Tryd.pinned (.plain (OpenSpec.ofChange streamTakesSpec)) streamTakesCard

/-- THE TIED CARD OF 'cambiumlaw19.StreamBack'. -/
def streamBackCard : Claim7 := { stood := { row := streamBackRow, standIns := [], harness := (true, "34a8e05e13f2c2a87ca0598166ddaa5ea248cc132e21f42f556cc79c55d3b36b"), looks := false }, kinds := [], alts := [], laidByText := true, laidKinds := [.data, .pinned], laidTests := true, laidLooks := .later }
def StreamBackCardSaid : Prop := Claim7.holds Tryd.pinned (.plain (OpenSpec.ofChange streamBackSpec)) streamBackCard

/-- THE TIED CARD OF 'cambiumlaw19.StreamTurned'. -/
def streamTurnedCard : Claim7 := { stood := { row := streamTurnedRow, standIns := [], harness := (true, "34a8e05e13f2c2a87ca0598166ddaa5ea248cc132e21f42f556cc79c55d3b36b"), looks := false }, kinds := [], alts := [], laidByText := true, laidKinds := [.data, .pinned], laidTests := true, laidLooks := .later }
def StreamTurnedCardSaid : Prop := Claim7.holds Tryd.pinned (.plain (OpenSpec.ofChange streamTurnedSpec)) streamTurnedCard

/-- THE SECOND FORM's CARD OF 'cambiumlaw19.StreamPaths'. -/
def streamPathsUptoCard : Claim7 := { stood := { row := streamPathsUptoRow, standIns := [], harness := (true, "34a8e05e13f2c2a87ca0598166ddaa5ea248cc132e21f42f556cc79c55d3b36b"), looks := false }, kinds := [], alts := [], laidByText := true, laidKinds := [.data, .pinned], laidTests := true, laidLooks := .later }
def StreamPathsUptoCardSaid : Prop := Claim7.holds Tryd.pinned (.plain (OpenSpec.upto streamPathsSpec)) streamPathsUptoCard

/-- THE SECOND FORM's CARD OF 'cambiumlaw19.StreamWithin'. -/
def streamWithinUptoCard : Claim7 := { stood := { row := streamWithinUptoRow, standIns := [], harness := (true, "34a8e05e13f2c2a87ca0598166ddaa5ea248cc132e21f42f556cc79c55d3b36b"), looks := false }, kinds := [], alts := [], laidByText := true, laidKinds := [.data, .pinned], laidTests := true, laidLooks := .later }
def StreamWithinUptoCardSaid : Prop := Claim7.holds Tryd.pinned (.plain (OpenSpec.upto streamWithinSpec)) streamWithinUptoCard

/-- THE SECOND FORM's CARD OF 'cambiumlaw19.StreamPuts'. -/
def streamPutsUptoCard : Claim7 := { stood := { row := streamPutsUptoRow, standIns := [], harness := (true, "34a8e05e13f2c2a87ca0598166ddaa5ea248cc132e21f42f556cc79c55d3b36b"), looks := false }, kinds := [], alts := [], laidByText := true, laidKinds := [.data, .pinned], laidTests := true, laidLooks := .later }
def StreamPutsUptoCardSaid : Prop := Claim7.holds Tryd.pinned (.plain (OpenSpec.upto streamPutsSpec)) streamPutsUptoCard

/-- THE SECOND FORM's CARD OF 'cambiumlaw19.StreamTakes'. -/
def streamTakesUptoCard : Claim7 := { stood := { row := streamTakesUptoRow, standIns := [], harness := (true, "34a8e05e13f2c2a87ca0598166ddaa5ea248cc132e21f42f556cc79c55d3b36b"), looks := false }, kinds := [], alts := [], laidByText := true, laidKinds := [.data, .pinned], laidTests := true, laidLooks := .later }
def StreamTakesUptoCardSaid : Prop := Claim7.holds Tryd.pinned (.plain (OpenSpec.upto streamTakesSpec)) streamTakesUptoCard

/-- THE SECOND FORM's CARD OF 'cambiumlaw19.StreamBack'. -/
def streamBackUptoCard : Claim7 := { stood := { row := streamBackUptoRow, standIns := [], harness := (true, "34a8e05e13f2c2a87ca0598166ddaa5ea248cc132e21f42f556cc79c55d3b36b"), looks := false }, kinds := [], alts := [], laidByText := true, laidKinds := [.data, .pinned], laidTests := true, laidLooks := .later }
def StreamBackUptoCardSaid : Prop := Claim7.holds Tryd.pinned (.plain (OpenSpec.upto streamBackSpec)) streamBackUptoCard

/-- THE SECOND FORM's CARD OF 'cambiumlaw19.StreamTurned'. -/
def streamTurnedUptoCard : Claim7 := { stood := { row := streamTurnedUptoRow, standIns := [], harness := (true, "34a8e05e13f2c2a87ca0598166ddaa5ea248cc132e21f42f556cc79c55d3b36b"), looks := false }, kinds := [], alts := [], laidByText := true, laidKinds := [.data, .pinned], laidTests := true, laidLooks := .later }
def StreamTurnedUptoCardSaid : Prop := Claim7.holds Tryd.pinned (.plain (OpenSpec.upto streamTurnedSpec)) streamTurnedUptoCard
end Rows
end Go.Proofs.YtgklipfeheohkaaDoor
