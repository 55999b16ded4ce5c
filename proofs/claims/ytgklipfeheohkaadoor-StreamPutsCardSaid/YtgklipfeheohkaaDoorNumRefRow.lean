import Derived.Test.YtgklipfeheohkaaDoorNumRow
import Derived.Test.YtgklipfeheohkaaDoorNumRefPut
import Derived.Test.YtgklipfeheohkaaDoorNumRefTake
import Derived.Test.YtgklipfeheohkaaDoorPx6
import Derived.Test.YtgklipfeheohkaaDoorPx11
import Derived.Test.YtgklipfeheohkaaDoorPx6
import Derived.Test.YtgklipfeheohkaaDoorPx11
/-! What the reference's texts and bytes answer. -/
namespace Go.Proofs.YtgklipfeheohkaaDoor.NumLem
open Go.RowKit Go.Proofs.YtgklipfeheohkaaDoor.P Go.Proofs.YtgklipfeheohkaaDoorW.PrintWords Go.Proofs.YtgklipfeheohkaaDoorW.PrintLast
set_option linter.unusedVariables false
set_option linter.unusedSimpArgs false
theorem refput_is (k : Nat) (hk : 10 ≤ k) (l x : List Int) (n most : Int) (h : l.length + x.length ≤ 140737488355310) : cambiumref01_put.f k l x n most = some (putRowR l x n most) := by
  unfold cambiumref01_put.f putRowR
  by_cases h1 : (x.length : Int) > most
  · rw [if_pos h1, if_pos h1]
  have h2 := putR_len l x.length n
  rw [if_neg h1, if_neg h1, refPut_k k hk _ _ _ (by omega), Option.bind_some, if_pos (by omega)]
theorem refPutText_is (k : Nat) (hk : 10 ≤ k) (l : List Int) (s : ByteArray) (h : l.length + s.size ≤ 140737488355310) : cambiumref01_PutText.f k l s = some (putRowR l (bytesOf s) 1 255) := by
  unfold cambiumref01_PutText.f
  rw [if_pos (by omega), refput_is k hk _ _ _ _ (by rw [bytesOf_length]; exact h)]
theorem reftake_is (k : Nat) (hk : 10 ≤ k) (l : List Int) (n : Int) (h : Bytes l) (hl : l.length < 140737488355328) : cambiumref01_take.f k l n = some (takeRowR l n) := by
  unfold cambiumref01_take.f takeRowR
  rw [refTake_k k hk l n h hl]
  have h0 := takeR_val l n h
  have h1 := takeR_len l n
  simp only [Option.bind_some, List.nil_append, List.length_nil]
  by_cases he : (takeR l n).2.2 = 0
  · rw [if_pos he]
    by_cases hs : ((takeR l n).2.1.length : Int) < (takeR l n).1
    · rw [if_pos hs, if_pos (Or.inr hs)]
    · have hno : ¬ ((takeR l n).2.2 ≠ 0 ∨ ((takeR l n).2.1.length : Int) < (takeR l n).1) := fun h => h.elim (fun h => h he) hs
      rw [if_neg hs, if_neg hno, if_pos h0, if_pos (by omega), if_pos (by simp only [List.length_take]; omega), if_pos (by simp only [List.length_drop]; omega)]
  · rw [if_neg he, if_pos (Or.inl he)]
theorem refTakeText_is (k : Nat) (hk : 10 ≤ k) (l : List Int) (h : Bytes l) (hl : l.length < 140737488355328) : cambiumref01_TakeText.f k l = some (strOfNums (takeRowR l 1).1, (takeRowR l 1).2.1, (takeRowR l 1).2.2) := by
  unfold cambiumref01_TakeText.f
  rw [reftake_is k hk _ _ h hl]
  rfl
end Go.Proofs.YtgklipfeheohkaaDoor.NumLem
