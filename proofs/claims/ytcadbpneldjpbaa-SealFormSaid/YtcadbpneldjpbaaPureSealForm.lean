/- The law SealForm holds: what is opened is sealed as the same bytes. No condition. -/
import Derived.Test.YtcadbpneldjpbaaLem
import Derived.Test.YtcadbpneldjpbaaPx6
namespace Go.Proofs.Ytcadbpneldjpbaa.Pure
open Go.RowKit Go.Proofs.Ytcadbpneldjpbaa.P Go.Proofs.Ytcadbpneldjpbaa.NumLem Go.Proofs.Ytcadbpneldjpbaa.SealLem Go.Proofs.YtcadbpneldjpbaaW.PrintWords Go.Proofs.YtcadbpneldjpbaaW.PrintLast
theorem Open_any (l : List Int) (hb : Bytes l) : seal_Open.f l = some (openR l) := by
  by_cases h : l.length ≤ 1000
  · exact Open_is l hb h
  · have hn : ¬ openOk l := fun q => by have := q.1; omega
    unfold seal_Open.f openR
    rw [if_pos (by omega), if_neg hn]
theorem SealForm : cambiumlaw04_SealForm.Pure := by
  intro l _ hl hwf
  have hb := Bytes.of_wf hwf
  unfold cambiumlaw04_SealForm.f
  rw [shown_is 3000 (by omega), Option.bind_some, Open_any l hb, Option.bind_some]
  by_cases ho : openOk l
  · have hs := open_seal l hb ho
    unfold openR
    simp only [if_pos ho, if_true, Seal_is, hs, Option.bind_some]
    simp
  · unfold openR
    simp only [if_neg ho]
    simp
end Go.Proofs.Ytcadbpneldjpbaa.Pure
