/- The law NumTakes holds: the program's and the reference's reading of a number are one function, for every row and width. No condition. -/
import Derived.Test.YtimnbcblejcmcaaLem
import Derived.Test.YtimnbcblejcmcaaNumRefTake
import Derived.Test.YtimnbcblejcmcaaPx1
namespace Go.Proofs.Ytimnbcblejcmcaa.Pure
open Go.RowKit Go.Proofs.Ytimnbcblejcmcaa.P Go.Proofs.Ytimnbcblejcmcaa.NumLem Go.Proofs.YtimnbcblejcmcaaW.PrintWords Go.Proofs.YtimnbcblejcmcaaW.PrintLast
theorem NumTakes : cambiumlaw01_NumTakes.Pure := by
  intro l n _ _ hwf hn
  have hl := few_len l
  have hb := (Bytes.of_wf hwf).take 1000
  refine ⟨20, ?_⟩
  unfold cambiumlaw01_NumTakes.f cambiumlaw01_shown.f
  simp only [few_is, Option.bind_some, List.nil_append, List.length_nil]
  rw [if_pos (by omega), Take_is _ n hb (by omega), Option.bind_some, refTake_is _ n hb (by omega), Option.bind_some]
  simp
end Go.Proofs.Ytimnbcblejcmcaa.Pure
