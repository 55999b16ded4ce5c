/- The law KeyTotal holds: the order of keys is total. No condition. -/
import Derived.Test.YtccliemfbmhpdaaLem
import Derived.Test.YtccliemfbmhpdaaPx4
namespace Go.Proofs.Ytccliemfbmhpdaa.Pure
open Go.RowKit Go.Proofs.Ytccliemfbmhpdaa.P Go.Proofs.Ytccliemfbmhpdaa.NumLem Go.Proofs.YtccliemfbmhpdaaW.PrintWords Go.Proofs.YtccliemfbmhpdaaW.PrintLast
theorem less_trans (a0 a1 a2 b0 b1 b2 c0 c1 c2 : Int) (h : less a0 a1 a2 b0 b1 b2 = true) (h2 : less b0 b1 b2 c0 c1 c2 = true) : less a0 a1 a2 c0 c1 c2 = true := by
  have h := of_decide_eq_true h
  have h2 := of_decide_eq_true h2
  exact decide_eq_true (by omega)
theorem tail_ (a0 a1 a2 b0 b1 b2 c0 c1 c2 : Int) : (if less a0 a1 a2 b0 b1 b2 = true then (if less b0 b1 b2 c0 c1 c2 = true then some (less a0 a1 a2 c0 c1 c2) else some true) else some true) = some true := by
  by_cases h : less a0 a1 a2 b0 b1 b2 = true
  · rw [if_pos h]
    by_cases h2 : less b0 b1 b2 c0 c1 c2 = true
    · rw [if_pos h2, less_trans _ _ _ _ _ _ _ _ _ h h2]
    · rw [if_neg h2]
  · rw [if_neg h]
theorem KeyTotal : cambiumlaw05_KeyTotal.Pure := by
  intro a0 a1 a2 b0 b1 b2 c0 c1 c2 _ _ _ _ _ _ _ _ _
  refine ⟨6, ?_⟩
  unfold cambiumlaw05_KeyTotal.f
  simp only [shown_is 6 (by omega), Less_is 6 _ _ _ _ _ _ (by omega), cambiumlaw05_KeyTotal.j0, cambiumlaw05_KeyTotal.j1, Less_is 5 _ _ _ _ _ _ (by omega), Less_is 4 _ _ _ _ _ _ (by omega), Option.bind_some, tail_]
  by_cases hl : less a0 a1 a2 b0 b1 b2 = true
  · have h := of_decide_eq_true hl
    have hg : less b0 b1 b2 a0 a1 a2 = false := decide_eq_false (by omega)
    have he : ¬ (a0 == b0 && (a1 == b1 && a2 == b2)) = true := by simp only [Bool.and_eq_true, beq_iff_eq]; omega
    simp [hl, hg, he]
  · have h := of_decide_eq_false (Bool.eq_false_iff.2 hl)
    by_cases hg : less b0 b1 b2 a0 a1 a2 = true
    · have h2 := of_decide_eq_true hg
      have he : ¬ (a0 == b0 && (a1 == b1 && a2 == b2)) = true := by simp only [Bool.and_eq_true, beq_iff_eq]; omega
      simp [hl, hg, he, wrap64]
    · have h2 := of_decide_eq_false (Bool.eq_false_iff.2 hg)
      have he : (a0 == b0 && (a1 == b1 && a2 == b2)) = true := by simp only [Bool.and_eq_true, beq_iff_eq]; omega
      simp [hl, hg, he, wrap64]
end Go.Proofs.Ytccliemfbmhpdaa.Pure
