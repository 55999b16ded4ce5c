import Derived.Test.YtjpebckmjlmkmaaSealPut
import Derived.Test.YtjpebckmjlmkmaaNumRefPut
import Derived.Test.YtjpebckmjlmkmaaSumLemR
import Derived.Test.YtjpebckmjlmkmaaPx3
import Derived.Test.YtjpebckmjlmkmaaPx3
import Derived.Test.YtjpebckmjlmkmaaPx4
/-! What sealing answers. -/
namespace Go.Proofs.Ytjpebckmjlmkmaa.SealLem
open Go.RowKit Go.Proofs.Ytjpebckmjlmkmaa.P Go.Proofs.Ytjpebckmjlmkmaa.NumLem Go.Proofs.YtjpebckmjlmkmaaW.PrintWords Go.Proofs.YtjpebckmjlmkmaaW.PrintLast
set_option linter.unusedVariables false
set_option linter.unusedSimpArgs false
theorem refsum_is (k : Nat) (l : List Int) (hl : l.length ≤ 1000) (hk : 10 * l.length < k) : cambiumref02_Sum.f k l = some (ssum l) := by
  unfold cambiumref02_Sum.f
  rw [SumLem.ref_more_is 0 l (by omega) (by omega) (by omega) k hk]
  rfl
theorem refMay_is (a0 a1 a2 a3 a4 : Int) : cambiumref04_May.f a0 a1 a2 a3 a4 = some (sealMay a0 a1 a2 a3 a4) := by
  unfold cambiumref04_May.f
  by_cases h : sealMay a0 a1 a2 a3 a4 = true
  · rw [h]
    have h' := (may_iff a0 a1 a2 a3 a4).1 h
    rw [if_pos (by omega), if_pos (by omega), if_pos (by omega), if_pos (by omega), if_pos (by omega), if_pos (by omega), if_pos (by omega), if_pos (by omega), if_pos (by omega), decide_eq_true (by omega)]
  · rw [Bool.not_eq_true] at h
    rw [h]
    have h' : ¬ _ := fun q => by have := (may_iff a0 a1 a2 a3 a4).2 q; rw [h] at this; cases this
    by_cases q1 : a0 ≥ 1
    case neg => rw [if_neg q1]
    rw [if_pos q1]
    by_cases q2 : a0 ≤ 6
    case neg => rw [if_neg q2]
    rw [if_pos q2]
    by_cases q3 : a3 ≥ 0
    case neg => rw [if_neg q3]
    rw [if_pos q3]
    by_cases q4 : a3 ≤ 8
    case neg => rw [if_neg q4]
    rw [if_pos q4]
    by_cases q5 : a1 ≥ 0
    case neg => rw [if_neg q5]
    rw [if_pos q5]
    by_cases q6 : a1 < 2048
    case neg => rw [if_neg q6]
    rw [if_pos q6]
    by_cases q7 : a2 ≥ 0
    case neg => rw [if_neg q7]
    rw [if_pos q7]
    by_cases q8 : a2 ≤ 65535
    case neg => rw [if_neg q8]
    rw [if_pos q8]
    by_cases q9 : a4 ≥ 0
    case neg => rw [if_neg q9]
    rw [if_pos q9, decide_eq_false (by omega)]
theorem ref_pad (d : Nat) : ∀ (k : Nat) (x : List Int), x.length + d = 252 → d + 2530 < k →
    cambiumref04_Seal.l0 k x = some (digits (ssum (x ++ List.replicate d 0)) 4 ++ (x ++ List.replicate d 0), 0) := by
  induction d with
  | zero =>
    intro k x hx hk
    obtain ⟨k, rfl⟩ : ∃ m, k = m + 1 := ⟨k - 1, by omega⟩
    have h := ssum_range x
    have hd := digits_length 4 (ssum x)
    rw [cambiumref04_Seal.l0_succ, if_neg (by omega), refsum_is k x (by omega) (by omega), Option.bind_some, refPut_k k (by omega) _ _ _ (by simp), Option.bind_some, w64_small (by omega) (by omega)]
    have e := putR_eights [] (ssum x) 4 (by omega) (by omega)
    rw [show (((4 : Nat) : Int)) = 4 from rfl, List.nil_append, eights_dig _ _ (by omega) h.1 (by omega)] at e
    rw [e, if_pos (by omega), List.replicate_zero, List.append_nil]
  | succ d ih =>
    intro k x hx hk
    obtain ⟨k, rfl⟩ : ∃ m, k = m + 1 := ⟨k - 1, by omega⟩
    rw [cambiumref04_Seal.l0_succ, if_pos (by omega), if_pos (by omega), ih k (x ++ [0]) (by rw [List.length_append, List.length_singleton]; omega) (by omega), List.append_assoc, List.singleton_append, ← List.replicate_succ]
theorem refSeal_is (k : Nat) (hk : 3000 ≤ k) (a0 a1 a2 a3 a4 : Int) (l : List Int) : cambiumref04_Seal.f k a0 a1 a2 a3 a4 l = some (sealR a0 a1 a2 a3 a4 l) := by
  unfold cambiumref04_Seal.f sealR
  rw [refMay_is, Option.bind_some]
  by_cases hm : sealMay a0 a1 a2 a3 a4 = false
  · rw [hm, if_neg (by decide), if_pos rfl]
  rw [if_neg hm, if_pos (by simpa using hm)]
  by_cases hl : (l.length : Int) > 236
  · rw [if_pos hl, if_pos hl]
  rw [if_neg hl, if_neg hl]
  have p1 : putR [] a0 1 = [] ++ eights a0 1 := putR_eights [] a0 1 (by omega) (by omega)
  have p2 := fun q => show putR q a3 1 = q ++ eights a3 1 from putR_eights q a3 1 (by omega) (by omega)
  have p3 := fun q => show putR q a1 2 = q ++ eights a1 2 from putR_eights q a1 2 (by omega) (by omega)
  have p4 := fun q => show putR q a2 2 = q ++ eights a2 2 from putR_eights q a2 2 (by omega) (by omega)
  have p5 := fun q => show putR q a4 5 = q ++ eights a4 5 from putR_eights q a4 5 (by omega) (by omega)
  have p6 := fun q => show putR q 0 5 = q ++ eights 0 5 from putR_eights q 0 5 (by omega) (by omega)
  rw [List.nil_append] at p1
  have hh := sealHead_len a0 a1 a2 a3 a4
  rw [refPut_k k (by omega) _ _ _ (by simp), Option.bind_some, p1, refPut_k k (by omega) _ _ _ (by simp only [List.length_append, eights_length]; omega), Option.bind_some, p2, refPut_k k (by omega) _ _ _ (by simp only [List.length_append, eights_length]; omega), Option.bind_some, p3,
    refPut_k k (by omega) _ _ _ (by simp only [List.length_append, eights_length]; omega), Option.bind_some, p4, refPut_k k (by omega) _ _ _ (by simp only [List.length_append, eights_length]; omega), Option.bind_some, p5, refPut_k k (by omega) _ _ _ (by simp only [List.length_append, eights_length]; omega), Option.bind_some, p6]
  have e : eights a0 1 ++ eights a3 1 ++ eights a1 2 ++ eights a2 2 ++ eights a4 5 = sealHead a0 a1 a2 a3 a4 := rfl
  rw [e, eights_zero, if_pos (by rw [List.length_append, List.length_replicate]; omega), ref_pad (236 - l.length) k _ (by simp only [List.length_append, List.length_replicate]; omega) (by omega)]
  have e2 : sealHead a0 a1 a2 a3 a4 ++ List.replicate 5 0 ++ l ++ List.replicate (236 - l.length) 0 = sealRow a0 a1 a2 a3 a4 l := by
    unfold sealRow
    simp only [List.append_assoc]
  rw [e2]
end Go.Proofs.Ytjpebckmjlmkmaa.SealLem
