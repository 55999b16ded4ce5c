/- The law KeyBack holds: a key that may be is read as it was laid down. No condition. -/
import Derived.Test.YtccliemfbmhpdaaPut
import Derived.Test.YtccliemfbmhpdaaPx5
import Derived.Test.YtccliemfbmhpdaaPx4
namespace Go.Proofs.Ytccliemfbmhpdaa.Pure
open Go.RowKit Go.Proofs.Ytccliemfbmhpdaa.P Go.Proofs.Ytccliemfbmhpdaa.NumLem Go.Proofs.YtccliemfbmhpdaaW.PrintWords Go.Proofs.YtccliemfbmhpdaaW.PrintLast
theorem few_is (l : List Int) : cambiumlaw05_few.f l = some (l.take 100) := by
  unfold cambiumlaw05_few.f
  by_cases h : (l.length : Int) > 100
  · rw [if_pos h, if_pos (by omega)]
  · rw [if_neg h, List.take_of_length_le (by omega)]
theorem KeyBack : cambiumlaw05_KeyBack.Pure := by
  intro a0 a1 a2 l _ _ _ _ _ hwf
  have hb := (Bytes.of_wf hwf).take 100
  have hl : (l.take 100).length ≤ 100 := List.length_take_le _ _
  refine ⟨4, ?_⟩
  unfold cambiumlaw05_KeyBack.f
  simp only [shown_is 4 (by omega), few_is, May_is, Option.bind_some]
  generalize l.take 100 = m at *
  by_cases hm : may a0 a1 a2 = true
  case neg => rw [if_neg hm]
  have ha := of_decide_eq_true hm
  rw [if_pos hm, Put_key a0 a1 a2 hm]
  have d0 := digits_length 4 a0
  have d1 := digits_length 1 a1
  have d2 := digits_length 4 a2
  unfold keyRow
  simp only [Option.bind_some, List.nil_append, List.length_nil, List.length_append, d0, d1, d2]
  rw [if_pos (by omega), if_pos (by omega)]
  have hT : key_Take.f ((digits a0 4 ++ (digits a1 1 ++ digits a2 4)) ++ m) = some (a0, a1, a2, m, 0) := by
    have b0 := digits_bytes 4 a0
    have b1 := digits_bytes 1 a1
    have b2 := digits_bytes 4 a2
    have e0 := take_digits a0 4 (digits a1 1 ++ (digits a2 4 ++ m)) (by omega) (by omega) (by omega) (by show a0 < 4294967296; omega) (b1.append (b2.append hb)) (by simp only [List.length_append]; omega)
    have e1 := take_digits a1 1 (digits a2 4 ++ m) (by omega) (by omega) (by omega) (by show a1 < 256; omega) (b2.append hb) (by simp only [List.length_append]; omega)
    have e2 := take_digits a2 4 m (by omega) (by omega) (by omega) (by show a2 < 4294967296; omega) hb (by omega)
    rw [show (((4 : Nat) : Int)) = 4 from rfl] at e0 e2
    rw [show (((1 : Nat) : Int)) = 1 from rfl] at e1
    unfold key_Take.f
    rw [if_neg (by simp only [List.length_append]; omega), List.append_assoc, List.append_assoc, e0]
    simp only [Option.bind_some, e1, e2, May_is, hm, if_true]
  rw [hT]
  simp
end Go.Proofs.Ytccliemfbmhpdaa.Pure
