import Derived.Test.YtgklipfeheohkaaDoorNumRow
import Derived.Test.YtgklipfeheohkaaDoorPx2
import Derived.Test.YtgklipfeheohkaaDoorPx9
namespace Go.Proofs.YtgklipfeheohkaaDoor.NumLem
open Go.RowKit Go.Proofs.YtgklipfeheohkaaDoor.P Go.Proofs.YtgklipfeheohkaaDoorW.PrintWords Go.Proofs.YtgklipfeheohkaaDoorW.PrintLast
set_option linter.unusedVariables false
set_option linter.unusedSimpArgs false
theorem TakeBytes_is (l : List Int) (h : Bytes l) (hl : l.length ≤ 140737488355328) : num_TakeBytes.f l = some (takeRowR l 2) := by
  unfold num_TakeBytes.f
  rw [take_is _ _ h hl, Option.bind_some]
  by_cases h1 : (takeRowR l 2).2.2 ≠ 0
  · rw [if_pos h1, takeRowR_err l 2 h1]
  · have := takeRowR_len l 2
    rw [if_neg h1, join_is _ _ (by simp only [List.length_nil]; omega), Option.bind_some, List.nil_append]
end Go.Proofs.YtgklipfeheohkaaDoor.NumLem
