import Derived.Test.YtcadbpneldjpbaaSealLem
import Derived.Test.YtcadbpneldjpbaaPx3
import Derived.Test.YtcadbpneldjpbaaPx3
/-! The document's examples, and Check. -/
namespace Go.Proofs.Ytcadbpneldjpbaa.SealLem
open Go.RowKit Go.Proofs.Ytcadbpneldjpbaa.P Go.Proofs.Ytcadbpneldjpbaa.NumLem Go.Proofs.YtcadbpneldjpbaaW.PrintWords Go.Proofs.YtcadbpneldjpbaaW.PrintLast
set_option linter.unusedVariables false
set_option linter.unusedSimpArgs false
theorem shown_is (k : Nat) (hk : 1 ≤ k) : cambiumlaw04_shown.f = some true := rfl
/-- What Check answers. -/
def checkR (l : List Int) (a b : Int) : Int × Int × Int × Int × Int × List Int × Int :=
  if (openR l).2.2.2.2.2.2 = 0 then (if (openR l).1 = a then (if (openR l).2.1 = b then ((openR l).1, (openR l).2.1, (openR l).2.2.1, (openR l).2.2.2.1, (openR l).2.2.2.2.1, (openR l).2.2.2.2.2.1, 0) else (0, 0, 0, 0, 0, [], 3)) else (0, 0, 0, 0, 0, [], 3)) else (0, 0, 0, 0, 0, [], 3)
theorem Check_is (l : List Int) (a b : Int) (hb : Bytes l) (hl : l.length ≤ 1000) : seal_Check.f l a b = some (checkR l a b) := by
  unfold seal_Check.f checkR
  rw [Open_is l hb hl, Option.bind_some]
  split
  · split
    · split <;> rfl
    · rfl
  · rfl
end Go.Proofs.Ytcadbpneldjpbaa.SealLem
