import Derived.Test.YtccliemfbmhpdaaLem
import Derived.Test.YtccliemfbmhpdaaPx4
import Derived.Test.YtccliemfbmhpdaaPx6
namespace Go.Proofs.Ytccliemfbmhpdaa.NumLem
open Go.RowKit Go.Proofs.Ytccliemfbmhpdaa.P Go.Proofs.YtccliemfbmhpdaaW.PrintWords Go.Proofs.YtccliemfbmhpdaaW.PrintLast
set_option linter.unusedVariables false
set_option linter.unusedSimpArgs false
theorem refMay_is (a0 a1 a2 : Int) : cambiumref05_May.f a0 a1 a2 = some (may a0 a1 a2) := by
  unfold cambiumref05_May.f may
  by_cases h0 : a0 ≥ 0 <;> by_cases h1 : a1 ≥ 0 <;> by_cases h2 : a2 ≥ 0 <;> by_cases h3 : a0 ≤ 2147483647 <;> by_cases h4 : a1 ≤ 255 <;> by_cases h5 : a2 ≤ 2147483647 <;> simp [h0, h1, h2, h3, h4, h5] <;> omega
theorem refLess_is (a0 a1 a2 b0 b1 b2 : Int) : cambiumref05_Less.f a0 a1 a2 b0 b1 b2 = some (less a0 a1 a2 b0 b1 b2) := by
  unfold cambiumref05_Less.f less
  by_cases h0 : a0 = b0
  · subst h0
    by_cases h1 : a1 = b1
    · subst h1; simp
    · simp [h1]
  · simp [h0]
end Go.Proofs.Ytccliemfbmhpdaa.NumLem
