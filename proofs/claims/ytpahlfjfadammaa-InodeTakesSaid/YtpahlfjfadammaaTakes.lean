import Derived.Test.YtpahlfjfadammaaTake
/-! What taking two numbers, and one, answers. -/
namespace Go.Proofs.Ytpahlfjfadammaa.NumLem
open Go.RowKit Go.Proofs.Ytpahlfjfadammaa.P Go.Proofs.YtpahlfjfadammaaW.PrintWords Go.Proofs.YtpahlfjfadammaaW.PrintLast
set_option linter.unusedVariables false
set_option linter.unusedSimpArgs false
theorem bytes_of (l : List Int) (h : Bytes l) : bytesOf (strOfNums l) = l := by
  unfold strOfNums bytesOf
  rw [List.map_map]
  conv => rhs; rw [← List.map_id l]
  apply List.map_congr_left
  intro x hx
  have := h x hx
  simp
  omega
theorem takes2_yes (l : List Int) (h : l.length = 5) : takesR [] l [4, 1] = ([val (l.take 4), val ((l.drop 4).take 1)], true) := by
  have e1 := takeR_ok l 4 (by omega) (by omega) (by omega)
  have e2 := takeR_ok (l.drop 4) 1 (by omega) (by omega) (by rw [List.length_drop]; omega)
  rw [show (((4 : Nat) : Int)) = 4 from rfl] at e1
  rw [show (((1 : Nat) : Int)) = 1 from rfl, List.drop_drop] at e2
  simp only [takesR, e1, e2, if_true, List.nil_append, List.cons_append]
  have : (l.drop 5).length = 0 := by rw [List.length_drop]; omega
  simp [this]
theorem takes2_no (l : List Int) (h : l.length ≠ 5) : (takesR [] l [4, 1]).2 = false := by
  by_cases h1 : l.length < 4
  · have e1 := takeR_short l 4 (by omega) (by omega) h1
    rw [show (((4 : Nat) : Int)) = 4 from rfl] at e1
    simp [takesR, e1]
  have e1 := takeR_ok l 4 (by omega) (by omega) (by omega)
  rw [show (((4 : Nat) : Int)) = 4 from rfl] at e1
  by_cases h2 : l.length < 5
  · have e2 := takeR_short (l.drop 4) 1 (by omega) (by omega) (by rw [List.length_drop]; omega)
    rw [show (((1 : Nat) : Int)) = 1 from rfl] at e2
    simp only [takesR, e1, e2, if_true]
    rfl
  have e2 := takeR_ok (l.drop 4) 1 (by omega) (by omega) (by rw [List.length_drop]; omega)
  rw [show (((1 : Nat) : Int)) = 1 from rfl, List.drop_drop] at e2
  simp only [takesR, e1, e2, if_true]
  have : (l.drop 5).length ≠ 0 := by rw [List.length_drop]; omega
  simpa using this
theorem takes1 (l : List Int) : takesR [] l [2] = (if l.length = 2 then ([val l], true) else ((takesR [] l [2]).1, false)) := by
  by_cases h1 : l.length < 2
  · have e1 := takeR_short l 2 (by omega) (by omega) h1
    rw [show (((2 : Nat) : Int)) = 2 from rfl] at e1
    rw [if_neg (by omega)]
    simp [takesR, e1]
  have e1 := takeR_ok l 2 (by omega) (by omega) (by omega)
  rw [show (((2 : Nat) : Int)) = 2 from rfl] at e1
  by_cases h2 : l.length = 2
  · rw [if_pos h2]
    rw [List.take_of_length_le (by omega)] at e1
    have : (l.drop 2).length = 0 := by rw [List.length_drop]; omega
    simp [takesR, e1, this]
  · rw [if_neg h2]
    have : (l.drop 2).length ≠ 0 := by rw [List.length_drop]; omega
    have e : ((((l.drop 2).length : Nat) : Int) == 0) = false := by simpa using this
    simp only [takesR, e1, if_true, e]
end Go.Proofs.Ytpahlfjfadammaa.NumLem
