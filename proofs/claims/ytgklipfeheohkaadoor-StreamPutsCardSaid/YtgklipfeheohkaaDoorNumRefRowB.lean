import Derived.Test.YtgklipfeheohkaaDoorNumRefRow
import Derived.Test.YtgklipfeheohkaaDoorPx6
import Derived.Test.YtgklipfeheohkaaDoorPx11
/-! What num's bytes answer. -/
namespace Go.Proofs.YtgklipfeheohkaaDoor.NumLem
open Go.RowKit Go.Proofs.YtgklipfeheohkaaDoor.P Go.Proofs.YtgklipfeheohkaaDoorW.PrintWords Go.Proofs.YtgklipfeheohkaaDoorW.PrintLast
set_option linter.unusedVariables false
set_option linter.unusedSimpArgs false
theorem refPutBytes_is (k : Nat) (hk : 10 ≤ k) (l x : List Int) (h : l.length + x.length ≤ 140737488355310) : cambiumref01_PutBytes.f k l x = some (putRowR l x 2 65535) := by
  unfold cambiumref01_PutBytes.f
  rw [refput_is k hk _ _ _ _ h]
  rfl
theorem refTakeBytes_is (k : Nat) (hk : 10 ≤ k) (l : List Int) (h : Bytes l) (hl : l.length < 140737488355328) : cambiumref01_TakeBytes.f k l = some (takeRowR l 2) := by
  unfold cambiumref01_TakeBytes.f
  rw [reftake_is k hk _ _ h hl]
  rfl
end Go.Proofs.YtgklipfeheohkaaDoor.NumLem
