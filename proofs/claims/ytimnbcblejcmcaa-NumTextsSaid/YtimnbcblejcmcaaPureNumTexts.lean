/- The law NumTexts holds. No condition. -/
import Derived.Test.YtimnbcblejcmcaaLem
import Derived.Test.YtimnbcblejcmcaaNumRefRowB
import Derived.Test.YtimnbcblejcmcaaNumRowB
import Derived.Test.YtimnbcblejcmcaaPx3
namespace Go.Proofs.Ytimnbcblejcmcaa.Pure
open Go.RowKit Go.Proofs.Ytimnbcblejcmcaa.P Go.Proofs.Ytimnbcblejcmcaa.NumLem Go.Proofs.YtimnbcblejcmcaaW.PrintWords Go.Proofs.YtimnbcblejcmcaaW.PrintLast
theorem NumTexts : cambiumlaw01_NumTexts.Pure := by
  intro l s _ _ hwf hs
  have hl := few_len l
  have hb := (Bytes.of_wf hwf).take 1000
  have hbl := bytesOf_length s
  refine ⟨10, ?_⟩
  unfold cambiumlaw01_NumTexts.f cambiumlaw01_shown.f
  have hc : bytes_conv.f s = some (bytesOf s) := by unfold bytes_conv.f; rw [if_pos (by omega)]
  simp only [few_is, Option.bind_some, List.nil_append, List.length_nil, hc]
  generalize l.take 1000 = m at *
  rw [if_pos (by omega), PutText_is _ _ (by omega), Option.bind_some, refPutText_is 10 (by omega) _ _ (by omega), Option.bind_some, if_pos (by omega), PutBytes_is _ _ (by omega), Option.bind_some, refPutBytes_is 10 (by omega) _ _ (by omega), Option.bind_some,
    if_pos (by omega), TakeText_is _ hb (by omega), Option.bind_some, refTakeText_is 10 (by omega) _ hb (by omega), Option.bind_some, if_pos (by omega), TakeBytes_is _ hb (by omega), Option.bind_some, refTakeBytes_is 10 (by omega) _ hb (by omega), Option.bind_some]
  simp
end Go.Proofs.Ytimnbcblejcmcaa.Pure
