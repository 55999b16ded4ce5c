/- The law KeyBetween holds: nothing stands between a key and the next one. No condition. -/
import Derived.Test.YtccliemfbmhpdaaLem
import Derived.Test.YtccliemfbmhpdaaPx8
namespace Go.Proofs.Ytccliemfbmhpdaa.Pure
open Go.RowKit Go.Proofs.Ytccliemfbmhpdaa.P Go.Proofs.Ytccliemfbmhpdaa.NumLem Go.Proofs.YtccliemfbmhpdaaW.PrintWords Go.Proofs.YtccliemfbmhpdaaW.PrintLast
/-- The end: no key that may be and is another one stands behind. -/
theorem KeyBetween : cambiumlaw05_KeyBetween.Pure := by
  intro a0 a1 a2 b0 b1 b2 _ _ _ _ _ _
  refine ⟨5, ?_⟩
  unfold cambiumlaw05_KeyBetween.f
  simp only [shown_is 5 (by omega), May_is, Option.bind_some, cambiumlaw05_KeyBetween.j0]
  by_cases hm : may a0 a1 a2 = true
  case neg => rw [if_neg hm]; rfl
  rw [if_pos hm]
  by_cases hm2 : may b0 b1 b2 = true
  case neg =>
    have : may b0 b1 b2 = false := Bool.eq_false_iff.2 hm2
    rw [this]; rfl
  have ha := of_decide_eq_true hm
  have hb := of_decide_eq_true hm2
  rw [hm2]
  simp only [Bool.not_true, Less_is 4 _ _ _ _ _ _ (by omega), Option.bind_some]
  rw [if_neg (by decide)]
  unfold key_Next.f key_end.f key_First.f
  simp only [Option.bind_some]
  by_cases he : (a0 == 2147483647 && (a1 == 255 && a2 == 2147483647)) = true
  · rw [if_pos he]
    simp only [Bool.and_eq_true, beq_iff_eq] at he
    obtain ⟨rfl, rfl, rfl⟩ := he
    simp only [Option.bind_some]
    by_cases hq : (b0 == 2147483647 && (b1 == 255 && b2 == 2147483647)) = true
    · simp [hq]
    · have hl : less b0 b1 b2 2147483647 255 2147483647 = true := decide_eq_true (by simp only [Bool.and_eq_true, beq_iff_eq] at hq; omega)
      simp [hq, hl]
  rw [if_neg he]
  have he' : ¬ (a0 = 2147483647 ∧ a1 = 255 ∧ a2 = 2147483647) := by simpa only [Bool.and_eq_true, beq_iff_eq] using he
  have key : ∀ n0 n1 n2 : Int, may n0 n1 n2 = true → less a0 a1 a2 n0 n1 n2 = true → (¬ (b0 = a0 ∧ b1 = a1 ∧ b2 = a2) → ¬ (b0 = n0 ∧ b1 = n1 ∧ b2 = n2) → less b0 b1 b2 a0 a1 a2 = true ∨ less n0 n1 n2 b0 b1 b2 = true) →
      (if may n0 n1 n2 = true then (if less a0 a1 a2 n0 n1 n2 = true then (if (b0 == a0 && (b1 == a1 && (b2 == a2))) = true then (some true) else (if (b0 == n0 && (b1 == n1 && (b2 == n2))) = true then (some true) else (if less b0 b1 b2 a0 a1 a2 = true then (some true) else some (less n0 n1 n2 b0 b1 b2)))) else (some false)) else (some false)) = some true := by
    intro n0 n1 n2 h1 h2 h3
    rw [if_pos h1, if_pos h2]
    by_cases q1 : (b0 == a0 && (b1 == a1 && (b2 == a2))) = true
    · rw [if_pos q1]
    rw [if_neg q1]
    by_cases q2 : (b0 == n0 && (b1 == n1 && (b2 == n2))) = true
    · rw [if_pos q2]
    rw [if_neg q2]
    rcases h3 (by simpa only [Bool.and_eq_true, beq_iff_eq] using q1) (by simpa only [Bool.and_eq_true, beq_iff_eq] using q2) with h | h
    · rw [if_pos h]
    · by_cases h4 : less b0 b1 b2 a0 a1 a2 = true
      · rw [if_pos h4]
      · rw [if_neg h4, h]
  have fin : ∀ n0 n1 n2 : Int, (0 ≤ n0 ∧ n0 ≤ 2147483647 ∧ 0 ≤ n1 ∧ n1 ≤ 255 ∧ 0 ≤ n2 ∧ n2 ≤ 2147483647) → (a0 < n0 ∨ a0 = n0 ∧ (a1 < n1 ∨ a1 = n1 ∧ a2 < n2)) →
      (¬ (b0 = a0 ∧ b1 = a1 ∧ b2 = a2) → ¬ (b0 = n0 ∧ b1 = n1 ∧ b2 = n2) → (b0 < a0 ∨ b0 = a0 ∧ (b1 < a1 ∨ b1 = a1 ∧ b2 < a2)) ∨ (n0 < b0 ∨ n0 = b0 ∧ (n1 < b1 ∨ n1 = b1 ∧ n2 < b2))) → _ :=
    fun n0 n1 n2 h1 h2 h3 => key n0 n1 n2 (decide_eq_true h1) (decide_eq_true h2) (fun q1 q2 => (h3 q1 q2).imp (fun h => decide_eq_true h) (fun h => decide_eq_true h))
  by_cases h2 : a2 < 2147483647
  · rw [if_pos h2, w64_small (by omega) (by omega)]
    exact fin a0 a1 (a2 + 1) (by omega) (by omega) (by omega)
  rw [if_neg h2]
  by_cases h1 : a1 < 255
  · rw [if_pos h1, w64_small (by omega) (by omega)]
    exact fin a0 (a1 + 1) 0 (by omega) (by omega) (by omega)
  rw [if_neg h1, w64_small (by omega) (by omega)]
  exact fin (a0 + 1) 0 0 (by omega) (by omega) (by omega)
end Go.Proofs.Ytccliemfbmhpdaa.Pure
