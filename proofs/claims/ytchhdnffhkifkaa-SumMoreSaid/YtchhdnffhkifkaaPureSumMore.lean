/- The law SumMore holds: a sum goes on from any other one as the reference says, for every sum and every row of bytes. No condition. -/
import Derived.Test.YtchhdnffhkifkaaLem
import Derived.Test.YtchhdnffhkifkaaPx1
namespace Go.Proofs.Ytchhdnffhkifkaa.Pure
open Go.RowKit Go.Proofs.Ytchhdnffhkifkaa.P Go.Proofs.Ytchhdnffhkifkaa.SumLem Go.Proofs.Ytchhdnffhkifkaa.Lem Go.Proofs.YtchhdnffhkifkaaW.PrintWords Go.Proofs.YtchhdnffhkifkaaW.PrintLast
theorem SumMore : cambiumlaw02_SumMore.Pure := by
  intro a l ha _ _ _
  have hb := wf_u32 ha
  have hl := few_len l
  refine ⟨10 * (l.take 600).length + 1, ?_⟩
  unfold cambiumlaw02_SumMore.f cambiumlaw02_shown.f
  simp only [few_is, Option.bind_some, if_true]
  rw [more_is a _ hb.1 hb.2, ref_more_is a _ hb.1 hb.2 (by omega) _ (by omega)]
  simp
end Go.Proofs.Ytchhdnffhkifkaa.Pure
