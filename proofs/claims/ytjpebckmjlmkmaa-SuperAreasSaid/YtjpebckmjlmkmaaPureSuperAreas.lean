/- The law SuperAreas holds: the areas have room, and not a sector more than they need. No condition. -/
import Derived.Test.YtjpebckmjlmkmaaLem
import Derived.Test.YtjpebckmjlmkmaaPx3
namespace Go.Proofs.Ytjpebckmjlmkmaa.Pure
open Go.RowKit Go.Proofs.Ytjpebckmjlmkmaa.P Go.Proofs.Ytjpebckmjlmkmaa.SuperLem Go.Proofs.YtjpebckmjlmkmaaW.PrintWords Go.Proofs.YtjpebckmjlmkmaaW.PrintLast
theorem areas_ok (n : Nat) (h1 : 32 ≤ n) (h2 : n ≤ 2048) : wrap64 ((cnt n : Int) * 118) ≥ (n : Int) ∧ wrap64 ((wrap64 ((cnt n : Int) - 1)) * 118) < (n : Int) ∧ wrap64 (2 + wrap64 (2 * (cnt n : Int))) = 2 + 2 * (cnt n : Int) ∧ 2 + 2 * (cnt n : Int) < (n : Int) := by
  have hc := cnt_ok n
  have e0 : wrap64 ((cnt n : Int) * 118) = (cnt n : Int) * 118 := by unfold wrap64; omega
  have e1 : wrap64 ((cnt n : Int) - 1) = (cnt n : Int) - 1 := by unfold wrap64; omega
  have e2 : wrap64 (((cnt n : Int) - 1) * 118) = ((cnt n : Int) - 1) * 118 := by unfold wrap64; omega
  have e3 : wrap64 (2 + wrap64 (2 * (cnt n : Int))) = 2 + 2 * (cnt n : Int) := by unfold wrap64; omega
  rw [e0, e1, e2, e3]
  omega
theorem SuperAreas : cambiumlaw07_SuperAreas.Pure := by
  intro x _
  unfold cambiumlaw07_SuperAreas.f
  rw [shown_is, Option.bind_some]
  rcases sectors x with ⟨h, n, hn, h1, h2⟩ | ⟨h, n, hn, h1, h2⟩
  · obtain ⟨g1, g2, g3, g4⟩ := areas_ok n h1 h2
    rw [if_pos h, hn, Areas_is n (by omega), Option.bind_some, if_pos rfl, if_pos g1, if_pos g2, if_pos g3.symm, decide_eq_true g4]
  · obtain ⟨g1, g2, g3, g4⟩ := areas_ok n h1 h2
    rw [if_neg h, hn, Areas_is n (by omega), Option.bind_some, if_pos rfl, if_pos g1, if_pos g2, if_pos g3.symm, decide_eq_true g4]
end Go.Proofs.Ytjpebckmjlmkmaa.Pure
