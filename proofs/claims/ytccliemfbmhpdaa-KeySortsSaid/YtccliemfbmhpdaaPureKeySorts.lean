/- The law KeySorts holds: keys are ordered as their bytes are. No condition. -/
import Derived.Test.YtccliemfbmhpdaaPut
import Derived.Test.YtccliemfbmhpdaaByteOrd
import Derived.Test.YtccliemfbmhpdaaPx8
namespace Go.Proofs.Ytccliemfbmhpdaa.Pure
open Go.RowKit Go.Proofs.Ytccliemfbmhpdaa.P Go.Proofs.Ytccliemfbmhpdaa.NumLem Go.Proofs.YtccliemfbmhpdaaW.PrintWords Go.Proofs.YtccliemfbmhpdaaW.PrintLast
theorem key_val (a0 a1 a2 : Int) (hm : may a0 a1 a2 = true) : val (keyRow a0 a1 a2) = a0 * 1099511627776 + a1 * 4294967296 + a2 := by
  have ha := of_decide_eq_true hm
  have v0 : val (digits a0 4) = a0 := by rw [val_digits, Int.emod_eq_of_lt (a := a0) (b := 256 ^ 4) (by omega) (by show a0 < 4294967296; omega)]
  have v1 : val (digits a1 1) = a1 := by rw [val_digits, Int.emod_eq_of_lt (a := a1) (b := 256 ^ 1) (by omega) (by show a1 < 256; omega)]
  have v2 : val (digits a2 4) = a2 := by rw [val_digits, Int.emod_eq_of_lt (a := a2) (b := 256 ^ 4) (by omega) (by show a2 < 4294967296; omega)]
  have p5 : (256 : Int) ^ (1 + 4) = 1099511627776 := by decide
  have p4 : (256 : Int) ^ 4 = 4294967296 := by decide
  unfold keyRow
  rw [val_append, val_append, v0, v1, v2, List.length_append, digits_length, digits_length, p5, p4]
  omega
theorem KeySorts : cambiumlaw05_KeySorts.Pure := by
  intro a0 a1 a2 b0 b1 b2 _ _ _ _ _ _
  refine ⟨5, ?_⟩
  unfold cambiumlaw05_KeySorts.f
  simp only [shown_is 5 (by omega), May_is, Option.bind_some, cambiumlaw05_KeySorts.j0]
  by_cases hm : may a0 a1 a2 = true
  case neg => rw [if_neg hm]; rfl
  rw [if_pos hm]
  by_cases hm2 : may b0 b1 b2 = true
  case neg =>
    have : may b0 b1 b2 = false := Bool.eq_false_iff.2 hm2
    rw [this]; rfl
  have ha := of_decide_eq_true hm
  have hb := of_decide_eq_true hm2
  rw [hm2]
  simp only [Bool.not_true, Less_is 4 _ _ _ _ _ _ (by omega), Option.bind_some, Put_key _ _ _ hm, Put_key _ _ _ hm2, strOf]
  rw [if_neg (by decide)]
  have la := keyRow_length a0 a1 a2
  have lb := keyRow_length b0 b1 b2
  have o1 := order _ _ (keyRow_bytes a0 a1 a2) (keyRow_bytes b0 b1 b2) (by omega)
  have o2 := order _ _ (keyRow_bytes b0 b1 b2) (keyRow_bytes a0 a1 a2) (by omega)
  rw [key_val _ _ _ hm, key_val _ _ _ hm2] at o1 o2
  have e1 : less a0 a1 a2 b0 b1 b2 = Op.bytesLess ((keyRow a0 a1 a2).map b8) ((keyRow b0 b1 b2).map b8) := by
    rw [o1.1]; unfold less; rw [decide_eq_decide]; omega
  have e2 : less b0 b1 b2 a0 a1 a2 = Op.bytesLess ((keyRow b0 b1 b2).map b8) ((keyRow a0 a1 a2).map b8) := by
    rw [o2.1]; unfold less; rw [decide_eq_decide]; omega
  have e3 : (a0 == b0 && (a1 == b1 && (a2 == b2))) = ((keyRow a0 a1 a2).map b8 == (keyRow b0 b1 b2).map b8) := by
    rw [Bool.eq_iff_iff, beq_iff_eq, o1.2]
    simp only [Bool.and_eq_true, beq_iff_eq]
    omega
  rw [e1, e2, e3]
  simp
end Go.Proofs.Ytccliemfbmhpdaa.Pure
