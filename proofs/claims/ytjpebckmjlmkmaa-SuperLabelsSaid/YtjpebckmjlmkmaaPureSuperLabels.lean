/- The law SuperLabels holds: labels and areas are as the document says. No condition. -/
import Derived.Test.YtjpebckmjlmkmaaLem
import Derived.Test.YtjpebckmjlmkmaaPx3
namespace Go.Proofs.Ytjpebckmjlmkmaa.Pure
open Go.RowKit Go.Proofs.Ytjpebckmjlmkmaa.P Go.Proofs.Ytjpebckmjlmkmaa.SuperLem Go.Proofs.YtjpebckmjlmkmaaW.PrintWords Go.Proofs.YtjpebckmjlmkmaaW.PrintLast
theorem labels_j0 (s : ByteArray) (hs : s.size ≤ 140737488351232) (x : Int) (n : Nat) (hx : wrap64 (32 + x) = (n : Int)) (hn : n ≤ 2048) : cambiumlaw07_SuperLabels.j0 (3 * s.size + 200) s true x = some true := by
  rw [show 3 * s.size + 200 = (3 * s.size + 199) + 1 from rfl, cambiumlaw07_SuperLabels.j0, hx, Areas_is n (by omega), Option.bind_some, refAreas_is n (by omega) _ (by omega), Option.bind_some, if_pos rfl, Label_is s hs _ (by omega), Option.bind_some, refLabel_is s hs _ (by omega), Option.bind_some, if_pos (by simp), if_pos rfl]
  simp
theorem SuperLabels : cambiumlaw07_SuperLabels.Pure := by
  intro s x hs _
  refine ⟨3 * s.size + 200, ?_⟩
  unfold cambiumlaw07_SuperLabels.f
  rw [shown_is, Option.bind_some]
  rcases sectors x with ⟨h, n, hn, _, h2⟩ | ⟨h, n, hn, _, h2⟩
  · rw [if_pos h]
    exact labels_j0 s hs _ n hn h2
  · rw [if_neg h]
    exact labels_j0 s hs _ n hn h2
end Go.Proofs.Ytjpebckmjlmkmaa.Pure
