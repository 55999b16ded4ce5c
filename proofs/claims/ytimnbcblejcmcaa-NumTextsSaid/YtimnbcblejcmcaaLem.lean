import Derived.Test.YtimnbcblejcmcaaNumLem
import Derived.Test.YtimnbcblejcmcaaPx1
namespace Go.Proofs.Ytimnbcblejcmcaa.NumLem
open Go.RowKit Go.Proofs.Ytimnbcblejcmcaa.P Go.Proofs.YtimnbcblejcmcaaW.PrintWords Go.Proofs.YtimnbcblejcmcaaW.PrintLast
theorem few_is (l : List Int) : cambiumlaw01_few.f l = some (l.take 1000) := by
  unfold cambiumlaw01_few.f
  by_cases h : (l.length : Int) > 1000
  · rw [if_pos h, if_pos (by omega)]
  · rw [if_neg h, List.take_of_length_le (by omega)]
theorem few_len (l : List Int) : (l.take 1000).length ≤ 1000 := List.length_take_le _ _
end Go.Proofs.Ytimnbcblejcmcaa.NumLem
