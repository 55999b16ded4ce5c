/- The law SealSeals holds: the program and the reference seal alike, and refuse alike. No condition. -/
import Derived.Test.YtcadbpneldjpbaaLem
import Derived.Test.YtcadbpneldjpbaaPx4
namespace Go.Proofs.Ytcadbpneldjpbaa.Pure
open Go.RowKit Go.Proofs.Ytcadbpneldjpbaa.P Go.Proofs.Ytcadbpneldjpbaa.NumLem Go.Proofs.Ytcadbpneldjpbaa.SealLem Go.Proofs.YtcadbpneldjpbaaW.PrintWords Go.Proofs.YtcadbpneldjpbaaW.PrintLast
theorem SealSeals : cambiumlaw04_SealSeals.Pure := by
  intro a0 a1 a2 a3 a4 l _ _ _ _ _ _ hl hwf
  refine ⟨3000, ?_⟩
  unfold cambiumlaw04_SealSeals.f
  rw [shown_is 3000 (by omega), Option.bind_some]
  by_cases h : (l.length : Int) > 300
  · have ht := List.length_take_le 300 l
    rw [if_pos h, if_pos (by omega)]
    generalize l.take 300 = m at *
    simp only [Option.bind_some, List.nil_append, List.length_nil, Seal_is, refSeal_is 3000 (by omega)]
    rw [if_pos (by omega)]
    simp
  · rw [if_neg h]
    simp only [Option.bind_some, List.nil_append, List.length_nil, Seal_is, refSeal_is 3000 (by omega)]
    rw [if_pos (by omega)]
    simp
end Go.Proofs.Ytcadbpneldjpbaa.Pure
