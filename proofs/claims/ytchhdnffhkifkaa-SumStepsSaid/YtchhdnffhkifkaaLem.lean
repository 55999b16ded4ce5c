import Derived.Test.YtchhdnffhkifkaaSumLem
import Derived.Test.YtchhdnffhkifkaaPx1
namespace Go.Proofs.Ytchhdnffhkifkaa.Lem
open Go.RowKit Go.Proofs.Ytchhdnffhkifkaa.P Go.Proofs.Ytchhdnffhkifkaa.SumLem Go.Proofs.YtchhdnffhkifkaaW.PrintWords Go.Proofs.YtchhdnffhkifkaaW.PrintLast
theorem few_is (l : List Int) : cambiumlaw02_few.f l = some (l.take 600) := by
  unfold cambiumlaw02_few.f
  by_cases h : (l.length : Int) > 600
  · rw [if_pos h, if_pos (by omega)]
  · rw [if_neg h, List.take_of_length_le (by omega)]
theorem few_len (l : List Int) : (l.take 600).length ≤ 600 := List.length_take_le _ _
end Go.Proofs.Ytchhdnffhkifkaa.Lem
