import Derived.Test.YtjpebckmjlmkmaaPx1
import Derived.Test.YtjpebckmjlmkmaaPx1
/-! What the sum's printed functions answer, by Crc. -/
namespace Go.Proofs.Ytjpebckmjlmkmaa.SumLem
open Go.RowKit Go.Proofs.Ytjpebckmjlmkmaa.P Go.Proofs.YtjpebckmjlmkmaaW.PrintWords Go.Proofs.YtjpebckmjlmkmaaW.PrintLast
set_option linter.unusedVariables false
set_option linter.unusedSimpArgs false

def bv (l : List Int) : List (BitVec 32) := l.map (BitVec.ofInt 32)
theorem bv_append (l m : List Int) : bv (l ++ m) = bv l ++ bv m := List.map_append
theorem wf_u32 {x : Int} (h : (Lit.int .u32 x).wf = true) : 0 ≤ x ∧ x < 4294967296 := by
  simp [Lit.wf, IntKind.min, IntKind.max, IntKind.bits, IntKind.signed] at h
  omega
theorem wf_u8 {x : Int} (h : (Lit.int .u8 x).wf = true) : 0 ≤ x ∧ x < 256 := by
  simp [Lit.wf, IntKind.min, IntKind.max, IntKind.bits, IntKind.signed] at h
  omega
theorem wf_i64 {x : Int} (h : (Lit.int .i64 x).wf = true) : -9223372036854775808 ≤ x ∧ x ≤ 9223372036854775807 := by
  simp [Lit.wf, IntKind.min, IntKind.max, IntKind.bits, IntKind.signed] at h
  omega
theorem more_is (a : Int) (l : List Int) (h0 : 0 ≤ a) (h1 : a < 4294967296) : sum_More.f a l = some (Crc.num (Crc.crc (BitVec.ofInt 32 a) (bv l))) := by
  unfold sum_More.f
  have e : a = Crc.num (BitVec.ofInt 32 a) := (Crc.num_of a h0 h1).symm
  rw [e, Crc.moreI_num, ← e]
  rfl
theorem sum_is (l : List Int) : sum_Sum.f l = some (Crc.num (Crc.crc 0#32 (bv l))) := by
  unfold sum_Sum.f
  rw [more_is 0 l (by omega) (by omega)]
  rfl

end Go.Proofs.Ytjpebckmjlmkmaa.SumLem
