/- The reference's Cut; the examples. -/
import Derived.Test.YtgklipfeheohkaaDoorCutA
import Derived.Test.YtgklipfeheohkaaDoorPx6
import Derived.Test.YtgklipfeheohkaaDoorPx7
namespace Go.Proofs.YtgklipfeheohkaaDoor.P
open Go.RowKit Go.Proofs.YtgklipfeheohkaaDoorW.PrintWords Go.Proofs.YtgklipfeheohkaaDoorW.PrintLast Go.Proofs.YtgklipfeheohkaaDoorW.PrintMore Go.Proofs.YtgklipfeheohkaaDoor.Sep
set_option linter.unusedVariables false
theorem shown19_is : cambiumlaw19_shown.f 300 = some true := by decide +kernel
theorem refCut_l0 (P : List ByteArray) (hP : P.length ≤ 1000) : ∀ (n j k : Nat), P.length - j ≤ n → j ≤ P.length → n + 200 < k →
    cambiumref19_Cut.l0 k P (j : Int) = some (if firstErr (P.drop j) = 0 then (P, 0) else ([], firstErr (P.drop j)))
  | _, _, 0, _, _, h => absurd h (Nat.not_lt_zero _)
  | n, j, k + 1, hn, hj, hk => by
    unfold cambiumref19_Cut.l0
    by_cases hlt : j < P.length
    · obtain ⟨m, rfl⟩ : ∃ m, n = m + 1 := ⟨n - 1, by omega⟩
      rw [if_pos (Int.ofNat_lt.2 hlt), if_pos (Int.natCast_nonneg j), rd_at P j hlt, Valid_mono _ k (by omega), Option.bind_some, wr_ j (by omega), refCut_l0 P hP m (j + 1) k (by omega) hlt (by omega)]
      rw [List.drop_eq_getElem_cons hlt]
      by_cases hv : validR P[j] = 0
      · rw [if_pos hv, firstErr, if_pos hv]
      · rw [if_neg hv, firstErr, if_neg hv, if_neg hv]
    · rw [if_neg (by omega), List.drop_eq_nil_of_le (show P.length ≤ j by omega), show firstErr [] = 0 from rfl, if_pos rfl]
theorem refCut_is (s : ByteArray) (k : Nat) (hk : 2000 ≤ k) : cambiumref19_Cut.f k s = some (cutR s) := by
  unfold cambiumref19_Cut.f cutR
  by_cases h1 : s.size > 200
  · rw [if_pos (by omega), if_pos h1]
  · have hl := partsB_length s
    rw [if_neg (by omega), if_neg h1, parts_is s (by omega) k (by omega), Option.bind_some]
    have := refCut_l0 (partsB s) (by omega) (partsB s).length 0 k (by omega) (Nat.zero_le _) (by omega)
    refine Eq.trans this ?_
    rw [List.drop_zero]
theorem cutR_len (s : ByteArray) : (cutR s).1.length ≤ 1000 := by
  unfold cutR
  split
  · exact Nat.zero_le _
  · have := partsB_length s
    split
    · show (partsB s).length ≤ 1000
      omega
    · exact Nat.zero_le _
end Go.Proofs.YtgklipfeheohkaaDoor.P
