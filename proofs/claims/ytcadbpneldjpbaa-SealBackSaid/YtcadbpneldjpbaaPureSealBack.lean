/- The law SealBack holds: what was sealed is opened as it was, with noughts behind, and is checked just by its kind and address. No condition. -/
import Derived.Test.YtcadbpneldjpbaaLem
import Derived.Test.YtcadbpneldjpbaaPx6
namespace Go.Proofs.Ytcadbpneldjpbaa.Pure
open Go.RowKit Go.Proofs.Ytcadbpneldjpbaa.P Go.Proofs.Ytcadbpneldjpbaa.NumLem Go.Proofs.Ytcadbpneldjpbaa.SealLem Go.Proofs.YtcadbpneldjpbaaW.PrintWords Go.Proofs.YtcadbpneldjpbaaW.PrintLast
theorem SealBack : cambiumlaw04_SealBack.Pure := by
  intro a0 a1 a2 a3 a4 l x y
  intros
  have hwf : ∀ z ∈ l, (Lit.int .u8 z).wf = true := by assumption
  have hb := Bytes.of_wf hwf
  refine ⟨3000, ?_⟩
  unfold cambiumlaw04_SealBack.f
  rw [shown_is 3000 (by omega), Option.bind_some, if_pos rfl, Seal_is, Option.bind_some]
  by_cases h : sealMay a0 a1 a2 a3 a4 = true ∧ l.length ≤ 236
  · obtain ⟨hm, hl⟩ := h
    have hlen := block_len a0 a1 a2 a3 a4 l hl
    have hbb := block_bytes a0 a1 a2 a3 a4 l hm hb
    have hop := seal_open a0 a1 a2 a3 a4 l hm hl
    rw [sealR_ok _ _ _ _ _ _ hm hl]
    generalize block a0 a1 a2 a3 a4 l = b at *
    simp only [Open_is b hbb (by omega), Check_is b _ _ hbb (by omega), Option.bind_some, checkR, hop, if_true]
    rw [if_neg (by decide)]
    have hc : (if a0 = x then (if a1 = y then (a0, a1, a2, a3, a4, l ++ List.replicate (236 - l.length) 0, (0 : Int)) else (0, 0, 0, 0, 0, [], 3)) else (0, 0, 0, 0, 0, [], 3)).2.2.2.2.2.2 = 0 ↔ (x = a0 ∧ y = a1) := by
      by_cases e0 : a0 = x
      · rw [if_pos e0]
        by_cases e1 : a1 = y
        · rw [if_pos e1]; exact ⟨fun _ => ⟨e0.symm, e1.symm⟩, fun _ => rfl⟩
        · rw [if_neg e1]; exact ⟨fun q => absurd q (by decide), fun q => absurd q.2.symm e1⟩
      · rw [if_neg e0]; exact ⟨fun q => absurd q (by decide), fun q => absurd q.1.symm e0⟩
    rw [if_pos ⟨hl, ⟨trivial, trivial, trivial, trivial, trivial, trivial, trivial⟩, trivial, hc⟩]
  · obtain ⟨h1, h2⟩ := sealR_no a0 a1 a2 a3 a4 l h
    rw [if_pos h2, if_pos h1]
end Go.Proofs.Ytcadbpneldjpbaa.Pure
