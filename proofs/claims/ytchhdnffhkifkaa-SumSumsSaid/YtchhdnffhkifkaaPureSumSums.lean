/- The law SumSums holds: any row of bytes has the sum that the reference gives, and stays as it was. No condition. -/
import Derived.Test.YtchhdnffhkifkaaLem
import Derived.Test.YtchhdnffhkifkaaPx1
namespace Go.Proofs.Ytchhdnffhkifkaa.Pure
open Go.RowKit Go.Proofs.Ytchhdnffhkifkaa.P Go.Proofs.Ytchhdnffhkifkaa.SumLem Go.Proofs.Ytchhdnffhkifkaa.Lem Go.Proofs.YtchhdnffhkifkaaW.PrintWords Go.Proofs.YtchhdnffhkifkaaW.PrintLast
theorem SumSums : cambiumlaw02_SumSums.Pure := by
  intro l _ _ _
  have hl := few_len l
  refine ⟨10 * (l.take 600).length + 1, ?_⟩
  unfold cambiumlaw02_SumSums.f cambiumlaw02_shown.f
  simp only [few_is, Option.bind_some, if_true, List.nil_append, List.length_nil]
  rw [if_pos (by omega), sum_is]
  unfold cambiumref02_Sum.f
  rw [ref_more_is 0 _ (by omega) (by omega) (by omega) _ (by omega)]
  simp
end Go.Proofs.Ytchhdnffhkifkaa.Pure
