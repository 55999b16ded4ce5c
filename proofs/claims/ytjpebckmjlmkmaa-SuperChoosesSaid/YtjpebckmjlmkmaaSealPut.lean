import Derived.Lib.Bytes
import Derived.Laws.BitsLemmas
import Derived.Test.YtjpebckmjlmkmaaNumCore
import Derived.Test.YtjpebckmjlmkmaaSumLem
import Derived.Test.YtjpebckmjlmkmaaPx1
import Derived.Test.YtjpebckmjlmkmaaPx2
/-! What sealing answers. -/
namespace Go.Proofs.Ytjpebckmjlmkmaa.SealLem
open Go.RowKit Go.Proofs.Ytjpebckmjlmkmaa.P Go.Proofs.Ytjpebckmjlmkmaa.NumLem Go.Proofs.YtjpebckmjlmkmaaW.PrintWords Go.Proofs.YtjpebckmjlmkmaaW.PrintLast
set_option linter.unusedVariables false
set_option linter.unusedSimpArgs false
def ssum (l : List Int) : Int := Crc.num (Crc.crc 0#32 (SumLem.bv l))
theorem ssum_range (l : List Int) : 0 ≤ ssum l ∧ ssum l < 4294967296 := Crc.num_lt _
theorem sum_is (l : List Int) : sum_Sum.f l = some (ssum l) := SumLem.sum_is l
theorem eights_dig (x : Int) (n : Nat) (hn : n ≤ 8) (h0 : 0 ≤ x) (h1 : x < 18446744073709551616) : eights x n = digits x n := by rw [eights_is _ _ hn, u64_of h0 h1]
theorem putR_eights (l : List Int) (x : Int) (n : Nat) (h1 : 1 ≤ n) (h8 : n ≤ 8) : putR l x n = l ++ eights x n := by
  unfold putR
  rw [if_neg (by omega), Int.toNat_natCast, eights_is _ _ h8]
theorem may_iff (a0 a1 a2 a3 a4 : Int) : sealMay a0 a1 a2 a3 a4 = true ↔ (1 ≤ a0 ∧ a0 ≤ 6 ∧ (0 ≤ a3 ∧ a3 ≤ 8) ∧ (0 ≤ a1 ∧ a1 ≤ 2047) ∧ (0 ≤ a2 ∧ a2 ≤ 65535) ∧ (0 ≤ a4 ∧ a4 ≤ 1099511627775)) := by
  unfold sealMay
  exact decide_eq_true_iff
/-- What Seal answers. -/
def sealR (a0 a1 a2 a3 a4 : Int) (l : List Int) : List Int × Int :=
  if sealMay a0 a1 a2 a3 a4 = false then ([], 1) else if (l.length : Int) > 236 then ([], 7) else (digits (ssum (sealRow a0 a1 a2 a3 a4 l)) 4 ++ sealRow a0 a1 a2 a3 a4 l, 0)
theorem Seal_is (a0 a1 a2 a3 a4 : Int) (l : List Int) : seal_Seal.f a0 a1 a2 a3 a4 l = some (sealR a0 a1 a2 a3 a4 l) := by
  unfold seal_Seal.f sealR
  split
  · rfl
  · split
    · rfl
    · have h := ssum_range (sealRow a0 a1 a2 a3 a4 l)
      rw [sum_is, Option.bind_some, w64_small (by omega) (by omega), eights_dig _ _ (by omega) h.1 (by omega)]
theorem eights_zero : eights 0 5 = List.replicate 5 0 := by decide +kernel
theorem sealHead_len (a0 a1 a2 a3 a4 : Int) : (sealHead a0 a1 a2 a3 a4).length = 11 := by
  unfold sealHead
  simp only [List.length_append, eights_length]
end Go.Proofs.Ytjpebckmjlmkmaa.SealLem
