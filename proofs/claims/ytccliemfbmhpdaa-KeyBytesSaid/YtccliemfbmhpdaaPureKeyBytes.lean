/- The law KeyBytes holds. No condition. -/
import Derived.Test.YtccliemfbmhpdaaLem
import Derived.Test.YtccliemfbmhpdaaNumRefTake
import Derived.Test.YtccliemfbmhpdaaNumRefPut
import Derived.Test.YtccliemfbmhpdaaPx3
import Derived.Test.YtccliemfbmhpdaaPx5
namespace Go.Proofs.Ytccliemfbmhpdaa.Pure
open Go.RowKit Go.Proofs.Ytccliemfbmhpdaa.P Go.Proofs.Ytccliemfbmhpdaa.NumLem Go.Proofs.YtccliemfbmhpdaaW.PrintWords Go.Proofs.YtccliemfbmhpdaaW.PrintLast
theorem refMay_is' (a0 a1 a2 : Int) : cambiumref05_May.f a0 a1 a2 = some (may a0 a1 a2) := by
  unfold cambiumref05_May.f may
  by_cases h0 : a0 ≥ 0 <;> by_cases h1 : a1 ≥ 0 <;> by_cases h2 : a2 ≥ 0 <;> by_cases h3 : a0 ≤ 2147483647 <;> by_cases h4 : a1 ≤ 255 <;> by_cases h5 : a2 ≤ 2147483647 <;> simp [h0, h1, h2, h3, h4, h5] <;> omega
theorem few_is (l : List Int) : cambiumlaw05_few.f l = some (l.take 100) := by
  unfold cambiumlaw05_few.f
  by_cases h : (l.length : Int) > 100
  · rw [if_pos h, if_pos (by omega)]
  · rw [if_neg h, List.take_of_length_le (by omega)]
theorem putR_len (l : List Int) (x n : Int) : (putR l x n).length ≤ l.length + 8 := by
  unfold putR
  split
  · simp
  · rw [List.length_append, digits_length]; omega
theorem takeR_bytes (l : List Int) (n : Int) (h : Bytes l) : Bytes (takeR l n).2.1 := by
  unfold takeR
  split
  · exact Bytes.nil
  · split
    · exact Bytes.nil
    · exact h.drop _
theorem takeR_len (l : List Int) (n : Int) : (takeR l n).2.1.length ≤ l.length := by
  unfold takeR
  split
  · simp
  · split
    · simp
    · simp only [List.length_drop]; omega
theorem put_same (k : Nat) (hk : 10 ≤ k) (l : List Int) (a0 a1 a2 : Int) (hl : l.length ≤ 100) : ∃ r, key_Put.f l a0 a1 a2 = some r ∧ cambiumref05_Put.f k l a0 a1 a2 = some r := by
  have h1 := putR_len l a0 4
  have h2 := putR_len (putR l a0 4) a1 1
  unfold key_Put.f cambiumref05_Put.f
  refine ⟨putR (putR (putR l a0 4) a1 1) a2 4, ?_, ?_⟩
  · rw [Put_is _ _ _ (by omega), Option.bind_some, Put_is _ _ _ (by omega), Option.bind_some, Put_is _ _ _ (by omega), Option.bind_some]
  · rw [refPut_k k hk _ _ _ (by omega), Option.bind_some, refPut_k k hk _ _ _ (by omega), Option.bind_some, refPut_k k hk _ _ _ (by omega), Option.bind_some]
theorem take_same (k : Nat) (hk : 10 ≤ k) (l : List Int) (hb : Bytes l) (hl : l.length ≤ 100) : ∃ r, key_Take.f l = some r ∧ cambiumref05_Take.f k l = some r := by
  have b1 := takeR_bytes l 4 hb
  have l1 := takeR_len l 4
  have b2 := takeR_bytes _ 1 b1
  have l2 := takeR_len (takeR l 4).2.1 1
  unfold key_Take.f cambiumref05_Take.f
  by_cases h9 : (l.length : Int) < 9
  · exact ⟨_, if_pos h9, if_pos h9⟩
  rw [if_neg h9, if_neg h9, Take_is _ _ hb (by omega), Option.bind_some, Take_is _ _ b1 (by omega), Option.bind_some, Take_is _ _ b2 (by omega), Option.bind_some,
    refTake_k k hk _ _ hb (by omega), Option.bind_some, refTake_k k hk _ _ b1 (by omega), Option.bind_some, refTake_k k hk _ _ b2 (by omega), Option.bind_some, May_is, refMay_is', Option.bind_some]
  split
  · exact ⟨_, rfl, rfl⟩
  · exact ⟨_, rfl, rfl⟩
theorem KeyBytes : cambiumlaw05_KeyBytes.Pure := by
  intro a0 a1 a2 l _ _ _ _ _ hwf
  have hb := (Bytes.of_wf hwf).take 100
  have hl : (l.take 100).length ≤ 100 := List.length_take_le _ _
  refine ⟨10, ?_⟩
  unfold cambiumlaw05_KeyBytes.f
  simp only [shown_is 10 (by omega), few_is, refMay_is', Option.bind_some, List.nil_append, List.length_nil]
  generalize l.take 100 = m at *
  obtain ⟨r, p1, p2⟩ := put_same 10 (by omega) m a0 a1 a2 hl
  obtain ⟨q, t1, t2⟩ := take_same 10 (by omega) m hb hl
  rw [if_pos (by omega), p1, p2, t1, t2]
  simp
end Go.Proofs.Ytccliemfbmhpdaa.Pure
