/- The law NumCut holds: what was laid down and cut off is refused. No condition. -/
import Derived.Test.YtimnbcblejcmcaaLem
import Derived.Test.YtimnbcblejcmcaaNumRow
import Derived.Test.YtimnbcblejcmcaaPx4
namespace Go.Proofs.Ytimnbcblejcmcaa.Pure
open Go.RowKit Go.Proofs.Ytimnbcblejcmcaa.P Go.Proofs.Ytimnbcblejcmcaa.NumLem Go.Proofs.YtimnbcblejcmcaaW.PrintWords Go.Proofs.YtimnbcblejcmcaaW.PrintLast
theorem NumCut : cambiumlaw01_NumCut.Pure := by
  intro s at_ hs _
  refine ⟨2, ?_⟩
  unfold cambiumlaw01_NumCut.f cambiumlaw01_shown.f
  simp only [Option.bind_some]
  by_cases h1 : (s.size : Int) > 255
  · rw [if_pos h1]
  have hl := bytesOf_length s
  rw [if_neg h1, PutText_is _ _ (by simp only [List.length_nil]; omega)]
  have hc : bytes_conv.f s = some (bytesOf s) := by unfold bytes_conv.f; rw [if_pos (by omega)]
  simp only [hc, Option.bind_some]
  rw [PutBytes_is _ _ (by simp only [List.length_nil]; omega), Option.bind_some]
  have e1 : putRowR [] (bytesOf s) 1 255 = (digits (bytesOf s).length 1 ++ bytesOf s, 0) := by
    unfold putRowR
    rw [if_neg (by omega)]
    have := putR_digits [] (bytesOf s).length 1 (by omega) (by omega) (by show ((bytesOf s).length : Int) < 256; omega)
    rw [Int.natCast_one] at this
    rw [this]
    rfl
  have e2 : putRowR [] (bytesOf s) 2 65535 = (digits (bytesOf s).length 2 ++ bytesOf s, 0) := by
    unfold putRowR
    rw [if_neg (by omega)]
    have := putR_digits [] (bytesOf s).length 2 (by omega) (by omega) (by show ((bytesOf s).length : Int) < 65536; omega)
    rw [show ((2 : Nat) : Int) = 2 from rfl] at this
    rw [this]
    rfl
  rw [e1, e2]
  have d1 := digits_length 1 (bytesOf s).length
  have d2 := digits_length 2 (bytesOf s).length
  have l1 : (digits (bytesOf s).length 1 ++ bytesOf s).length = s.size + 1 := by rw [List.length_append]; omega
  have l2 : (digits (bytesOf s).length 2 ++ bytesOf s).length = s.size + 2 := by rw [List.length_append]; omega
  simp only [if_true, l1, l2]
  rw [w64_small (x := (s.size : Int) + 1) (by omega) (by omega), w64_small (x := (s.size : Int) + 2) (by omega) (by omega), if_pos (by omega)]
  have e3 : (((s.size + 2 : Nat) : Int) != (s.size : Int) + 2) = false := by simp
  rw [e3]
  simp only [cambiumlaw01_NumCut.j0]
  rw [if_neg (by decide)]
  by_cases h2 : at_ < 0
  · rw [if_pos h2]; simp [cambiumlaw01_NumCut.j1]
  rw [if_neg h2, l1]
  by_cases h3 : at_ ≥ ((s.size + 1 : Nat) : Int)
  · have : decide (at_ ≥ ((s.size + 1 : Nat) : Int)) = true := by simpa using h3
    rw [this]
    simp [cambiumlaw01_NumCut.j1]
  have h3b : decide (at_ ≥ ((s.size + 1 : Nat) : Int)) = false := by simpa using h3
  rw [h3b]
  simp only [cambiumlaw01_NumCut.j1]
  obtain ⟨i, rfl⟩ : ∃ i : Nat, at_ = i := ⟨at_.toNat, by omega⟩
  have b1 : Bytes (digits (bytesOf s).length 1 ++ bytesOf s) := (digits_bytes _ _).append (bytesOf_bytes s)
  have b2 : Bytes (digits (bytesOf s).length 2 ++ bytesOf s) := (digits_bytes _ _).append (bytesOf_bytes s)
  rw [if_neg (by decide), if_pos (by omega), if_pos (by omega), Int.toNat_natCast, TakeText_is _ (b1.take _) (by rw [List.length_take]; omega), Option.bind_some, if_pos (by omega), TakeBytes_is _ (b2.take _) (by rw [List.length_take]; omega), Option.bind_some]
  have c1 := take_cut (bytesOf s) 1 i (by omega) (by omega) (by show ((bytesOf s).length : Int) < 256; omega) (by omega)
  have c2 := take_cut (bytesOf s) 2 i (by omega) (by omega) (by show ((bytesOf s).length : Int) < 65536; omega) (by omega)
  rw [Int.natCast_one] at c1
  rw [show ((2 : Nat) : Int) = 2 from rfl] at c2
  rw [c1, c2]
  rfl
end Go.Proofs.Ytimnbcblejcmcaa.Pure
