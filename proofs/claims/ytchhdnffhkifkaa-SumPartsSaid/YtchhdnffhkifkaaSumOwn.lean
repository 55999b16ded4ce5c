import Derived.Test.YtchhdnffhkifkaaPx1
/-! What the sum's printed functions answer, by Crc (without the reference). -/
namespace Go.Proofs.Ytchhdnffhkifkaa.SumOwn
open Go.RowKit Go.Proofs.Ytchhdnffhkifkaa.P Go.Proofs.YtchhdnffhkifkaaW.PrintWords Go.Proofs.YtchhdnffhkifkaaW.PrintLast
set_option linter.unusedVariables false
def bv (l : List Int) : List (BitVec 32) := l.map (BitVec.ofInt 32)
theorem bv_append (l m : List Int) : bv (l ++ m) = bv l ++ bv m := List.map_append
theorem more_num (v : BitVec 32) (l : List Int) : sum_More.f (Crc.num v) l = some (Crc.num (Crc.crc v (bv l))) := by
  unfold sum_More.f
  rw [Crc.moreI_num]
  rfl
theorem sum_is (l : List Int) : sum_Sum.f l = some (Crc.num (Crc.crc 0#32 (bv l))) := by
  unfold sum_Sum.f
  have := more_num 0#32 l
  have e : Crc.num 0#32 = 0 := rfl
  rw [e] at this
  rw [this]
  rfl
end Go.Proofs.Ytchhdnffhkifkaa.SumOwn
