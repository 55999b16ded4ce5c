/-
  No cell of these rows narrows 'for every input' (looked for: loops, veiled, ifaces, maps, wideKeys, modest, calm, conditions, laid).
  DERIVED. THE GIVEN ROWS OF THIS SEAT. 7 by the template 'for every input the law returns true; each argument reads behind the call as it read before'; 0 by the template 'total and deterministic' (their statements: YtccliemfbmhpdaaTotals.lean).
  GIVEN WITH THE SEED: the statements are not yours to turn. If you find one false, say at which input.
  Laid BY PROGRAM, IN A SANDBOX (cutbox-rows.mjs): the forced cells as the released guide's own fill.sh prints them over the translation 0f0824f50e5f0a30… (all of the seat's roots in one cut). By AI agents, Wed Nov 11 2026. No macro, syntax, notation, axiom, sorry.
-/
import Derived.Test.YtccliemfbmhpdaaChecked
import GoSem.Claim
import GoSem.ClaimJoined
import GoSem.ClaimMapViews
import Derived.JoinedTies
import Derived.KernelRfl
namespace Go.Proofs.Ytccliemfbmhpdaa
/- THE CELL 'sum', in the pinned program and in every row, IS THE sha256 OF THE DUMP (.gsa) THAT YtccliemfbmhpdaaProg.lean LOADS. Nothing in Lean hashes anything: it is a label: what it is worth is what the hold of that sum in a sandbox is worth. -/
noncomputable def Try.pinned : Pinned := { name := "ytccliemfbmhpdaa", sum := "0f0824f50e5f0a306613f7e1a5d2821bbc6a10bb2bec7f40177408277422fd0f", checked := Try.checked }
namespace Rows
def none {H : Type} : Left H := { results := [], args := [] }

/-- 'cambiumlaw05.KeyTotal': WHATEVER THE INPUT: true; the input reads as it did. -/
def keyTotalSpec : ChangeSpec := { name := "keyTotal", fn := fun _ => fun
  | [d1, d2, d3] => { results := [.lit (.bool true)], args := [d1, d2, d3] }
  | _ => none }
def keyTotalRow : OpenClaim := { program := "ytccliemfbmhpdaa", sum := "0f0824f50e5f0a306613f7e1a5d2821bbc6a10bb2bec7f40177408277422fd0f", func := "cambium/cambiumlaw05.KeyTotal", spec := "keyTotal", apart := false }
def KeyTotalSaid : Prop := keyTotalRow.holds Try.pinned (OpenSpec.ofChange keyTotalSpec)

/-- ITS FALSE NEIGHBOUR: 'it returns false'. Refute it at one input. -/
def keyTotalWrong : ChangeSpec := { name := "keyTotal", fn := fun _ => fun
  | [d1, d2, d3] => { results := [.lit (.bool false)], args := [d1, d2, d3] }
  | _ => none }
def KeyTotalWrongFalsely : Prop := keyTotalRow.holds Try.pinned (OpenSpec.ofChange keyTotalWrong)

/-- 'cambiumlaw05.KeyNexts': WHATEVER THE INPUT: true; the input reads as it did. -/
def keyNextsSpec : ChangeSpec := { name := "keyNexts", fn := fun _ => fun
  | [d] => { results := [.lit (.bool true)], args := [d] }
  | _ => none }
def keyNextsRow : OpenClaim := { program := "ytccliemfbmhpdaa", sum := "0f0824f50e5f0a306613f7e1a5d2821bbc6a10bb2bec7f40177408277422fd0f", func := "cambium/cambiumlaw05.KeyNexts", spec := "keyNexts", apart := false }
def KeyNextsSaid : Prop := keyNextsRow.holds Try.pinned (OpenSpec.ofChange keyNextsSpec)

/-- ITS FALSE NEIGHBOUR: 'it returns false'. Refute it at one input. -/
def keyNextsWrong : ChangeSpec := { name := "keyNexts", fn := fun _ => fun
  | [d] => { results := [.lit (.bool false)], args := [d] }
  | _ => none }
def KeyNextsWrongFalsely : Prop := keyNextsRow.holds Try.pinned (OpenSpec.ofChange keyNextsWrong)

/-- 'cambiumlaw05.KeyOrders': WHATEVER THE INPUT: true; the input reads as it did. -/
def keyOrdersSpec : ChangeSpec := { name := "keyOrders", fn := fun _ => fun
  | [d1, d2] => { results := [.lit (.bool true)], args := [d1, d2] }
  | _ => none }
def keyOrdersRow : OpenClaim := { program := "ytccliemfbmhpdaa", sum := "0f0824f50e5f0a306613f7e1a5d2821bbc6a10bb2bec7f40177408277422fd0f", func := "cambium/cambiumlaw05.KeyOrders", spec := "keyOrders", apart := false }
def KeyOrdersSaid : Prop := keyOrdersRow.holds Try.pinned (OpenSpec.ofChange keyOrdersSpec)

/-- ITS FALSE NEIGHBOUR: 'it returns false'. Refute it at one input. -/
def keyOrdersWrong : ChangeSpec := { name := "keyOrders", fn := fun _ => fun
  | [d1, d2] => { results := [.lit (.bool false)], args := [d1, d2] }
  | _ => none }
def KeyOrdersWrongFalsely : Prop := keyOrdersRow.holds Try.pinned (OpenSpec.ofChange keyOrdersWrong)

/-- 'cambiumlaw05.KeySorts': WHATEVER THE INPUT: true; the input reads as it did. -/
def keySortsSpec : ChangeSpec := { name := "keySorts", fn := fun _ => fun
  | [d1, d2] => { results := [.lit (.bool true)], args := [d1, d2] }
  | _ => none }
def keySortsRow : OpenClaim := { program := "ytccliemfbmhpdaa", sum := "0f0824f50e5f0a306613f7e1a5d2821bbc6a10bb2bec7f40177408277422fd0f", func := "cambium/cambiumlaw05.KeySorts", spec := "keySorts", apart := false }
def KeySortsSaid : Prop := keySortsRow.holds Try.pinned (OpenSpec.ofChange keySortsSpec)

/-- ITS FALSE NEIGHBOUR: 'it returns false'. Refute it at one input. -/
def keySortsWrong : ChangeSpec := { name := "keySorts", fn := fun _ => fun
  | [d1, d2] => { results := [.lit (.bool false)], args := [d1, d2] }
  | _ => none }
def KeySortsWrongFalsely : Prop := keySortsRow.holds Try.pinned (OpenSpec.ofChange keySortsWrong)

/-- 'cambiumlaw05.KeyBetween': WHATEVER THE INPUT: true; the input reads as it did. -/
def keyBetweenSpec : ChangeSpec := { name := "keyBetween", fn := fun _ => fun
  | [d1, d2] => { results := [.lit (.bool true)], args := [d1, d2] }
  | _ => none }
def keyBetweenRow : OpenClaim := { program := "ytccliemfbmhpdaa", sum := "0f0824f50e5f0a306613f7e1a5d2821bbc6a10bb2bec7f40177408277422fd0f", func := "cambium/cambiumlaw05.KeyBetween", spec := "keyBetween", apart := false }
def KeyBetweenSaid : Prop := keyBetweenRow.holds Try.pinned (OpenSpec.ofChange keyBetweenSpec)

/-- ITS FALSE NEIGHBOUR: 'it returns false'. Refute it at one input. -/
def keyBetweenWrong : ChangeSpec := { name := "keyBetween", fn := fun _ => fun
  | [d1, d2] => { results := [.lit (.bool false)], args := [d1, d2] }
  | _ => none }
def KeyBetweenWrongFalsely : Prop := keyBetweenRow.holds Try.pinned (OpenSpec.ofChange keyBetweenWrong)

/-- 'cambiumlaw05.KeyBytes': WHATEVER THE INPUT: true; the input reads as it did. -/
def keyBytesSpec : ChangeSpec := { name := "keyBytes", fn := fun _ => fun
  | [d1, d2] => { results := [.lit (.bool true)], args := [d1, d2] }
  | _ => none }
def keyBytesRow : OpenClaim := { program := "ytccliemfbmhpdaa", sum := "0f0824f50e5f0a306613f7e1a5d2821bbc6a10bb2bec7f40177408277422fd0f", func := "cambium/cambiumlaw05.KeyBytes", spec := "keyBytes", apart := false }
def KeyBytesSaid : Prop := keyBytesRow.holds Try.pinned (OpenSpec.ofChange keyBytesSpec)

/-- ITS FALSE NEIGHBOUR: 'it returns false'. Refute it at one input. -/
def keyBytesWrong : ChangeSpec := { name := "keyBytes", fn := fun _ => fun
  | [d1, d2] => { results := [.lit (.bool false)], args := [d1, d2] }
  | _ => none }
def KeyBytesWrongFalsely : Prop := keyBytesRow.holds Try.pinned (OpenSpec.ofChange keyBytesWrong)

/-- 'cambiumlaw05.KeyBack': WHATEVER THE INPUT: true; the input reads as it did. -/
def keyBackSpec : ChangeSpec := { name := "keyBack", fn := fun _ => fun
  | [d1, d2] => { results := [.lit (.bool true)], args := [d1, d2] }
  | _ => none }
def keyBackRow : OpenClaim := { program := "ytccliemfbmhpdaa", sum := "0f0824f50e5f0a306613f7e1a5d2821bbc6a10bb2bec7f40177408277422fd0f", func := "cambium/cambiumlaw05.KeyBack", spec := "keyBack", apart := false }
def KeyBackSaid : Prop := keyBackRow.holds Try.pinned (OpenSpec.ofChange keyBackSpec)

/-- ITS FALSE NEIGHBOUR: 'it returns false'. Refute it at one input. -/
def keyBackWrong : ChangeSpec := { name := "keyBack", fn := fun _ => fun
  | [d1, d2] => { results := [.lit (.bool false)], args := [d1, d2] }
  | _ => none }
def KeyBackWrongFalsely : Prop := keyBackRow.holds Try.pinned (OpenSpec.ofChange keyBackWrong)

/- THE SECOND FORM. 'bulk': how many values and letters a reading holds, each counted each time it is reached (what is shared counts as often as it is met; a slice's spare places count too). A statement '..UptoSaid' is the law's where the arguments, and the package variables that the reading takes, are together of bulk at most 1048576: NARROWER than '..Said'. Prove '..Said' where nothing that the law and all that it calls make is longer than what came in: it says more and counts as full. Else prove '..UptoSaid'. A law counts once. -/
mutual
def uptoBulk {H : Type} : DataW H → Nat
  | .lit (.string bytes) => bytes.length + 1
  | .lit _ => 1
  | .nil => 1
  | .ptr d => uptoBulk d + 1
  | .slice elems spare => uptoBulkAll elems + uptoBulkAll spare + 1
  | .agg parts => uptoBulkAll parts + 1
  | .iface _ d => uptoBulk d + 1
  | .map entries => uptoBulkEntries entries + 1
  | .held _ => 1
def uptoBulkAll {H : Type} : List (DataW H) → Nat
  | [] => 0
  | d :: r => uptoBulk d + uptoBulkAll r
def uptoBulkEntries {H : Type} : List (Lit × DataW H) → Nat
  | [] => 0
  | x :: r => uptoBulkEntry x + uptoBulkEntries r
def uptoBulkEntry {H : Type} : Lit × DataW H → Nat
  | (.string bytes, d) => bytes.length + uptoBulk d + 1
  | (_, d) => uptoBulk d + 1
 end
def uptoSmall : (H : Type) → List (DataW H) → Bool := fun _ ds => decide (uptoBulkAll ds ≤ 1048576)
def OpenSpec.upto (s : _root_.Go.ChangeSpec) : _root_.Go.OpenSpec := { _root_.Go.OpenSpec.ofChange s with cond := some uptoSmall }

/-- 'cambiumlaw05.KeyTotal', WHERE WHAT IT READS IS OF BULK AT MOST 1048576: true; the input reads as it did. -/
def keyTotalUptoRow : OpenClaim := { program := "ytccliemfbmhpdaa", sum := "0f0824f50e5f0a306613f7e1a5d2821bbc6a10bb2bec7f40177408277422fd0f", func := "cambium/cambiumlaw05.KeyTotal", spec := "keyTotal", apart := false, narrowed := true }
def KeyTotalUptoSaid : Prop := keyTotalUptoRow.holds Try.pinned (OpenSpec.upto keyTotalSpec)

/-- 'cambiumlaw05.KeyNexts', WHERE WHAT IT READS IS OF BULK AT MOST 1048576: true; the input reads as it did. -/
def keyNextsUptoRow : OpenClaim := { program := "ytccliemfbmhpdaa", sum := "0f0824f50e5f0a306613f7e1a5d2821bbc6a10bb2bec7f40177408277422fd0f", func := "cambium/cambiumlaw05.KeyNexts", spec := "keyNexts", apart := false, narrowed := true }
def KeyNextsUptoSaid : Prop := keyNextsUptoRow.holds Try.pinned (OpenSpec.upto keyNextsSpec)

/-- 'cambiumlaw05.KeyOrders', WHERE WHAT IT READS IS OF BULK AT MOST 1048576: true; the input reads as it did. -/
def keyOrdersUptoRow : OpenClaim := { program := "ytccliemfbmhpdaa", sum := "0f0824f50e5f0a306613f7e1a5d2821bbc6a10bb2bec7f40177408277422fd0f", func := "cambium/cambiumlaw05.KeyOrders", spec := "keyOrders", apart := false, narrowed := true }
def KeyOrdersUptoSaid : Prop := keyOrdersUptoRow.holds Try.pinned (OpenSpec.upto keyOrdersSpec)

/-- 'cambiumlaw05.KeySorts', WHERE WHAT IT READS IS OF BULK AT MOST 1048576: true; the input reads as it did. -/
def keySortsUptoRow : OpenClaim := { program := "ytccliemfbmhpdaa", sum := "0f0824f50e5f0a306613f7e1a5d2821bbc6a10bb2bec7f40177408277422fd0f", func := "cambium/cambiumlaw05.KeySorts", spec := "keySorts", apart := false, narrowed := true }
def KeySortsUptoSaid : Prop := keySortsUptoRow.holds Try.pinned (OpenSpec.upto keySortsSpec)

/-- 'cambiumlaw05.KeyBetween', WHERE WHAT IT READS IS OF BULK AT MOST 1048576: true; the input reads as it did. -/
def keyBetweenUptoRow : OpenClaim := { program := "ytccliemfbmhpdaa", sum := "0f0824f50e5f0a306613f7e1a5d2821bbc6a10bb2bec7f40177408277422fd0f", func := "cambium/cambiumlaw05.KeyBetween", spec := "keyBetween", apart := false, narrowed := true }
def KeyBetweenUptoSaid : Prop := keyBetweenUptoRow.holds Try.pinned (OpenSpec.upto keyBetweenSpec)

/-- 'cambiumlaw05.KeyBytes', WHERE WHAT IT READS IS OF BULK AT MOST 1048576: true; the input reads as it did. -/
def keyBytesUptoRow : OpenClaim := { program := "ytccliemfbmhpdaa", sum := "0f0824f50e5f0a306613f7e1a5d2821bbc6a10bb2bec7f40177408277422fd0f", func := "cambium/cambiumlaw05.KeyBytes", spec := "keyBytes", apart := false, narrowed := true }
def KeyBytesUptoSaid : Prop := keyBytesUptoRow.holds Try.pinned (OpenSpec.upto keyBytesSpec)

/-- 'cambiumlaw05.KeyBack', WHERE WHAT IT READS IS OF BULK AT MOST 1048576: true; the input reads as it did. -/
def keyBackUptoRow : OpenClaim := { program := "ytccliemfbmhpdaa", sum := "0f0824f50e5f0a306613f7e1a5d2821bbc6a10bb2bec7f40177408277422fd0f", func := "cambium/cambiumlaw05.KeyBack", spec := "keyBack", apart := false, narrowed := true }
def KeyBackUptoSaid : Prop := keyBackUptoRow.holds Try.pinned (OpenSpec.upto keyBackSpec)

end Rows
end Go.Proofs.Ytccliemfbmhpdaa
