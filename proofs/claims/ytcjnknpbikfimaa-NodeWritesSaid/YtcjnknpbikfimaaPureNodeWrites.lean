/- The law NodeWrites holds: the program and the reference write alike, and refuse alike. No condition. -/
import Derived.Test.YtcjnknpbikfimaaNodeB
import Derived.Test.YtcjnknpbikfimaaPx23
namespace Go.Proofs.Ytcjnknpbikfimaa.Pure
open Go.RowKit Go.Proofs.Ytcjnknpbikfimaa.P Go.Proofs.Ytcjnknpbikfimaa.NodeLem Go.Proofs.YtcjnknpbikfimaaW.PrintWords Go.Proofs.YtcjnknpbikfimaaW.PrintLast
theorem NodeWrites (lv : Int) (l : List S52) (m : List S57) (a g : Int) : ∃ k, cambiumlaw06_NodeWrites.f k lv l m a g = some true := by
  have hl := List.length_take_le 20 l
  have hm := List.length_take_le 20 m
  refine ⟨4000, ?_⟩
  unfold cambiumlaw06_NodeWrites.f
  rw [shown_is, Option.bind_some, few_is, Option.bind_some, Write_is 4000 lv _ _ a g (by omega) (by omega) (by omega), Option.bind_some, refWrite_is 4000 lv _ _ a g (by omega) (by omega) (by omega), Option.bind_some, if_pos rfl, if_pos rfl, beq_self_eq_true]
end Go.Proofs.Ytcjnknpbikfimaa.Pure
