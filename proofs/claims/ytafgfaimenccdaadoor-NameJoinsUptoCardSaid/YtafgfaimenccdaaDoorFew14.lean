/- few, walked; small laws of names. -/
import Derived.Test.YtafgfaimenccdaaDoorNameJ
import Derived.Test.YtafgfaimenccdaaDoorShown14
import Derived.Test.YtafgfaimenccdaaDoorRows
namespace Go.Proofs.YtafgfaimenccdaaDoor.P
open Go.RowKit Go.Proofs.YtafgfaimenccdaaDoorW.PrintWords Go.Proofs.YtafgfaimenccdaaDoorW.PrintLast Go.Proofs.YtafgfaimenccdaaDoorW.PrintMore Go.Proofs.YtafgfaimenccdaaDoor.Sep
set_option linter.unusedVariables false
set_option maxHeartbeats 4000000 in
set_option maxRecDepth 100000 in
theorem few14.st (A : Option Addr) (c : Nat) (l : List ByteArray) (w : World) (hr : Kd.C Kd.string w A l.length l) (hc : l.length ≤ c) :
    Calls Tryd.prog 16 #[.slice A l.length c] w fun e w' => e = .returned (.slice A (l.take 30).length c) ∧ w = w' := by
  by_cases h : 30 < l.length
  · have d1 : decide (30 < (l.length : Int)) = true := decide_eq_true (by omega)
    have d2 : decide (30 < l.length) = true := decide_eq_true h
    rw [show (l.take 30).length = 30 from by rw [List.length_take]; omega]
    obtain ⟨i, hi, _⟩ := info_parts info_str
    have hcut := cut_to (P := Tryd.prog) 26 9 .i64 Tryd.underlying26 hi A l.length c (30 : Int) (by omega) (by omega) hc
    clear hr hc h hi
    go_enter Tryd.func16, Tryd.ntmps16
    go_wp2
    go_ret
    exact ⟨rfl, rfl⟩
  · have d1 : decide (30 < (l.length : Int)) = false := decide_eq_false (by omega)
    have d2 : decide (30 < l.length) = false := decide_eq_false h
    rw [show (l.take 30).length = l.length from by rw [List.length_take]; omega]
    clear hr hc h
    go_enter Tryd.func16, Tryd.ntmps16
    go_wp2
    go_ret
    exact ⟨rfl, rfl⟩
/-- few of a row: the row that it is. -/
theorem few_row (A : Option Addr) (c : Nat) (l : List ByteArray) (w : World) (hr : Kd.C Kd.string w A l.length l) (hc : l.length ≤ c) : Kd.C Kd.string w A (l.take 30).length (l.take 30) ∧ (l.take 30).length ≤ c ∧ (l.take 30).length ≤ 30 := by
  refine ⟨?_, ?_, ?_⟩
  · by_cases h : 30 ≤ l.length
    · exact Kd.C_take hr h
    · rw [List.take_of_length_le (by omega)]
      exact hr
  · rw [List.length_take]; omega
  · rw [List.length_take]; omega
theorem take_last (l : List ByteArray) (n : Nat) (h : l.length = n + 1) : l.take n ++ [l.getD n ByteArray.empty] = l := by
  rw [List.getD_eq_getElem?_getD, List.getElem?_eq_getElem (by omega)]
  have := List.take_append_getElem (l := l) (i := n) (by omega)
  rw [Option.getD_some, this, List.take_of_length_le (by omega)]
theorem below_take (l : List ByteArray) (n : Nat) (h : l.length = n + 1) : belowR l (l.take n) = true := by
  unfold belowR
  have hn : (l.take n).length = n := by rw [List.length_take]; omega
  rw [hn]
  exact decide_eq_true ⟨by omega, rfl⟩
theorem below_not (l m : List ByteArray) (h : l.length ≤ m.length) : belowR l m = false := by
  unfold belowR
  exact decide_eq_false (fun q => by omega)
end Go.Proofs.YtafgfaimenccdaaDoor.P
