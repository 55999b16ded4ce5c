/- The law KeyNexts holds. No condition. -/
import Derived.Test.YtccliemfbmhpdaaRef
import Derived.Test.YtccliemfbmhpdaaPx5
namespace Go.Proofs.Ytccliemfbmhpdaa.Pure
open Go.RowKit Go.Proofs.Ytccliemfbmhpdaa.P Go.Proofs.Ytccliemfbmhpdaa.NumLem Go.Proofs.YtccliemfbmhpdaaW.PrintWords Go.Proofs.YtccliemfbmhpdaaW.PrintLast
theorem next_is (a0 a1 a2 : Int) (hm : may a0 a1 a2 = true) : key_Next.f a0 a1 a2 = cambiumref05_Next.f a0 a1 a2 := by
  have hm := of_decide_eq_true hm
  unfold key_Next.f cambiumref05_Next.f key_end.f key_First.f
  simp only [Option.bind_some, Bool.and_eq_true, beq_iff_eq]
  by_cases h2 : a2 < 2147483647
  · rw [if_neg (by omega), if_pos h2, if_pos h2]
  by_cases h1 : a1 < 255
  · rw [if_neg (by omega), if_neg h2, if_pos h1, if_neg h2, if_pos h1]
  by_cases h0 : a0 < 2147483647
  · rw [if_neg (by omega), if_neg h2, if_neg h1, if_neg h2, if_neg h1, if_pos h0]
  · rw [if_pos (by omega), if_neg h2, if_neg h1, if_neg h0]
theorem next_some (a0 a1 a2 : Int) : ∃ x, cambiumref05_Next.f a0 a1 a2 = some x := by
  unfold cambiumref05_Next.f
  split
  · exact ⟨_, rfl⟩
  · split
    · exact ⟨_, rfl⟩
    · split
      · exact ⟨_, rfl⟩
      · exact ⟨_, rfl⟩
theorem KeyNexts : cambiumlaw05_KeyNexts.Pure := by
  intro a0 a1 a2 _ _ _
  refine ⟨4, ?_⟩
  unfold cambiumlaw05_KeyNexts.f
  simp only [shown_is 4 (by omega), refMay_is, Option.bind_some]
  by_cases hm : may a0 a1 a2 = true
  · obtain ⟨x, hx⟩ := next_some a0 a1 a2
    rw [if_pos hm, next_is a0 a1 a2 hm, hx]
    simp [key_First.f, key_Last.f]
  · rw [if_neg hm]
end Go.Proofs.Ytccliemfbmhpdaa.Pure
