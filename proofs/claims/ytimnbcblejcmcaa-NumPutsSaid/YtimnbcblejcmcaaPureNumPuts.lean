/- The law NumPuts holds: the program's and the reference's laying down of a number are one function, for every row, number and width. No condition. -/
import Derived.Test.YtimnbcblejcmcaaLem
import Derived.Test.YtimnbcblejcmcaaNumRefPut
import Derived.Test.YtimnbcblejcmcaaPx2
namespace Go.Proofs.Ytimnbcblejcmcaa.Pure
open Go.RowKit Go.Proofs.Ytimnbcblejcmcaa.P Go.Proofs.Ytimnbcblejcmcaa.NumLem Go.Proofs.YtimnbcblejcmcaaW.PrintWords Go.Proofs.YtimnbcblejcmcaaW.PrintLast
theorem NumPuts : cambiumlaw01_NumPuts.Pure := by
  intro l x n _ _ hwf hx hn
  have hl := few_len l
  refine ⟨20, ?_⟩
  unfold cambiumlaw01_NumPuts.f cambiumlaw01_shown.f
  simp only [few_is, Option.bind_some, List.nil_append, List.length_nil]
  rw [if_pos (by omega), Put_is _ x n (by omega), Option.bind_some, refPut_is _ x n (by omega), Option.bind_some]
  simp
end Go.Proofs.Ytimnbcblejcmcaa.Pure
