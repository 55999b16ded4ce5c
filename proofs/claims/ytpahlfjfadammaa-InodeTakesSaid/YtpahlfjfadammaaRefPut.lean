import Derived.Test.YtpahlfjfadammaaPut
import Derived.Test.YtpahlfjfadammaaNumRefRow
import Derived.Test.YtpahlfjfadammaaPx6
import Derived.Test.YtpahlfjfadammaaPx8
import Derived.Test.YtpahlfjfadammaaPx10
/-! What the reference lays down. -/
namespace Go.Proofs.Ytpahlfjfadammaa.NumLem
open Go.RowKit Go.Proofs.Ytpahlfjfadammaa.P Go.Proofs.YtpahlfjfadammaaW.PrintWords Go.Proofs.YtpahlfjfadammaaW.PrintLast
set_option linter.unusedVariables false
set_option linter.unusedSimpArgs false
theorem refPut_inode (k : Nat) (a0 a1 a2 : Int) (hk : 11 ≤ k) : cambiumref13_Put.f k a0 a1 a2 = some (inodeR a0 a1 a2) := by
  obtain ⟨k, rfl⟩ : ∃ m, k = m + 1 := ⟨k - 1, by omega⟩
  unfold cambiumref13_Put.f inodeR
  have h1 := putR_len [] a0 1
  have h2 := putR_len (putR [] a0 1) a1 2
  rw [List.length_nil] at h1
  by_cases h : inodeOk a0 a1 a2
  · have h3 := three a0 a1 a2 h
    rw [if_pos h]
    unfold inodeOk at h
    rw [if_neg (by omega), if_neg (by omega), if_neg (by omega), if_neg (by omega), if_neg (by omega), decide_eq_false (by omega)]
    simp only [cambiumref13_Put.j0]
    rw [if_neg (by decide), refPut_k k (by omega) _ _ _ (by simp), Option.bind_some, refPut_k k (by omega) _ _ _ (by omega), Option.bind_some, refPut_k k (by omega) _ _ _ (by omega), Option.bind_some, h3]
  · rw [if_neg h]
    unfold inodeOk at h
    have tr : cambiumref13_Put.j0 (k + 1) true a0 a1 a2 = some ([], 1) := by simp [cambiumref13_Put.j0]
    by_cases q0 : a0 < 1
    · rw [if_pos q0, tr]
    by_cases q1 : a0 > 2
    · rw [if_neg q0, if_pos q1, tr]
    by_cases q2 : a1 < 0
    · rw [if_neg q0, if_neg q1, if_pos q2, tr]
    by_cases q3 : a1 > 65535
    · rw [if_neg q0, if_neg q1, if_neg q2, if_pos q3, tr]
    by_cases q4 : a2 < 0
    · rw [if_neg q0, if_neg q1, if_neg q2, if_neg q3, if_pos q4, tr]
    rw [if_neg q0, if_neg q1, if_neg q2, if_neg q3, if_neg q4, decide_eq_true (by omega), tr]
theorem refPut_entry (k : Nat) (s : ByteArray) (a1 a2 : Int) (hk : 11 ≤ k) : cambiumref13_PutEntry.f k s a1 a2 = some (entryR s a1 a2) := by
  obtain ⟨k, rfl⟩ : ∃ m, k = m + 1 := ⟨k - 1, by omega⟩
  unfold cambiumref13_PutEntry.f entryR
  have hl := bytesOf_length s
  have hd := digits_length 1 (bytesOf s).length
  by_cases h : entryOk s a1 a2
  · rw [if_pos h]
    unfold entryOk at h
    rw [if_neg (by omega), if_neg (by omega), if_neg (by omega), if_neg (by omega), if_neg (by omega), decide_eq_false (by omega)]
    simp only [cambiumref13_PutEntry.j0]
    rw [if_neg (by decide), refPutText_is k (by omega) _ _ (by simp only [List.length_nil]; omega), Option.bind_some, text_row s (by omega)]
    simp only []
    have h1 := putR_len (digits (bytesOf s).length 1 ++ bytesOf s) a1 4
    rw [List.length_append] at h1
    rw [refPut_k k (by omega) _ _ _ (by rw [List.length_append]; omega), Option.bind_some, refPut_k k (by omega) _ _ _ (by omega), Option.bind_some, twoNums _ _ _ (by omega) (by omega) (by omega) (by omega), List.append_assoc]
    rfl
  · rw [if_neg h]
    unfold entryOk at h
    have tr : cambiumref13_PutEntry.j0 (k + 1) true s a1 a2 = some ([], 1) := by simp [cambiumref13_PutEntry.j0]
    by_cases q0 : (s.size : Int) < 1
    · rw [if_pos q0, tr]
    by_cases q1 : (s.size : Int) > 20
    · rw [if_neg q0, if_pos q1, tr]
    by_cases q2 : a1 < 1
    · rw [if_neg q0, if_neg q1, if_pos q2, tr]
    by_cases q3 : a1 > 2147483647
    · rw [if_neg q0, if_neg q1, if_neg q2, if_pos q3, tr]
    by_cases q4 : a2 < 1
    · rw [if_neg q0, if_neg q1, if_neg q2, if_neg q3, if_pos q4, tr]
    rw [if_neg q0, if_neg q1, if_neg q2, if_neg q3, if_neg q4, decide_eq_true (by omega), tr]
theorem refPut_extent (k : Nat) (l : List Int) (a : Int) (hk : 11 ≤ k) (hl : l.length ≤ 1000) : cambiumref13_PutExtent.f k l a = some (extentR l a) := by
  obtain ⟨k, rfl⟩ : ∃ m, k = m + 1 := ⟨k - 1, by omega⟩
  unfold cambiumref13_PutExtent.f extentR
  have tr : cambiumref13_PutExtent.j0 (k + 1) true l a = some ([], 1) := by simp [cambiumref13_PutExtent.j0]
  by_cases h0 : a = 0
  · rw [if_pos h0, if_pos h0]
    by_cases h1 : (l.length : Int) < 1
    · rw [if_pos h1, if_neg (by omega)]
    by_cases h2 : (l.length : Int) > 24
    · rw [if_neg h1, if_pos h2, if_neg (by omega)]
    · rw [if_neg h1, if_neg h2, if_pos (by omega), Option.bind_some, if_pos (by simp; omega)]
      rfl
  · rw [if_neg h0, if_neg h0]
    by_cases h1 : a < 1
    · rw [if_pos h1, tr, if_neg (by omega)]
    by_cases h2 : a ≥ 2048
    · rw [if_neg h1, if_pos h2, tr, if_neg (by omega)]
    rw [if_neg h1, if_neg h2]
    by_cases h3 : l = []
    · subst h3
      have e : (((([] : List Int).length : Nat) : Int) != 0) = false := rfl
      rw [e, if_pos ⟨rfl, by omega, by omega⟩]
      simp only [cambiumref13_PutExtent.j0]
      have e0 := putR_dig [1] a 2 (by omega) (by omega) (by omega) (by show a < 65536; omega)
      rw [show (((2 : Nat) : Int)) = 2 from rfl] at e0
      rw [if_neg (by decide), refPut_k k (by omega) _ _ _ (by simp), Option.bind_some, e0]
      rfl
    · have e : (((l.length : Nat) : Int) != 0) = true := by
        have : l.length ≠ 0 := fun h => h3 (List.eq_nil_of_length_eq_zero h)
        simpa using this
      rw [e, tr, if_neg (by simp [h3])]
end Go.Proofs.Ytpahlfjfadammaa.NumLem
