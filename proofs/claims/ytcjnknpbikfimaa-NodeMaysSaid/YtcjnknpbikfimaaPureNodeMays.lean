/- The law NodeMays holds: the program and the reference say alike whether a node may be. No condition. -/
import Derived.Test.YtcjnknpbikfimaaNodeA
import Derived.Test.YtcjnknpbikfimaaPx12
namespace Go.Proofs.Ytcjnknpbikfimaa.Pure
open Go.RowKit Go.Proofs.Ytcjnknpbikfimaa.P Go.Proofs.Ytcjnknpbikfimaa.NodeLem Go.Proofs.YtcjnknpbikfimaaW.PrintWords Go.Proofs.YtcjnknpbikfimaaW.PrintLast
theorem NodeMays (lv : Int) (l : List S52) (m : List S57) : ∃ k, cambiumlaw06_NodeMays.f k lv l m = some true := by
  have hl := List.length_take_le 20 l
  have hm := List.length_take_le 20 m
  refine ⟨200, ?_⟩
  unfold cambiumlaw06_NodeMays.f
  rw [shown_is, Option.bind_some, few_is, Option.bind_some, if_pos rfl]
  dsimp only
  rw [May_is 200 lv _ _ (by omega) (by omega) (by omega), Option.bind_some, refMay_is 200 lv _ _ (by omega) (by omega) (by omega), Option.bind_some, beq_self_eq_true]
end Go.Proofs.Ytcjnknpbikfimaa.Pure
