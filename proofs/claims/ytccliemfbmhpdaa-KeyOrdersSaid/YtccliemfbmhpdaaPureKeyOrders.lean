/- The law KeyOrders holds. No condition. -/
import Derived.Test.YtccliemfbmhpdaaRef
import Derived.Test.YtccliemfbmhpdaaPx7
namespace Go.Proofs.Ytccliemfbmhpdaa.Pure
open Go.RowKit Go.Proofs.Ytccliemfbmhpdaa.P Go.Proofs.Ytccliemfbmhpdaa.NumLem Go.Proofs.YtccliemfbmhpdaaW.PrintWords Go.Proofs.YtccliemfbmhpdaaW.PrintLast
theorem KeyOrders : cambiumlaw05_KeyOrders.Pure := by
  intro a0 a1 a2 b0 b1 b2 _ _ _ _ _ _
  refine ⟨4, ?_⟩
  unfold cambiumlaw05_KeyOrders.f
  simp only [shown_is 4 (by omega), Less_is 4 _ _ _ _ _ _ (by omega), refLess_is, refMay_is, May_is, Option.bind_some, beq_self_eq_true, if_true]
end Go.Proofs.Ytccliemfbmhpdaa.Pure
