import Derived.Test.YtcadbpneldjpbaaSealLem
import Derived.Test.YtcadbpneldjpbaaPx3
import Derived.Test.YtcadbpneldjpbaaPx3
/-! The document's examples, and Check. -/
namespace Go.Proofs.Ytcadbpneldjpbaa.SealLem
open Go.RowKit Go.Proofs.Ytcadbpneldjpbaa.P Go.Proofs.Ytcadbpneldjpbaa.NumLem Go.Proofs.YtcadbpneldjpbaaW.PrintWords Go.Proofs.YtcadbpneldjpbaaW.PrintLast
set_option linter.unusedVariables false
set_option linter.unusedSimpArgs false
set_option maxRecDepth 100000 in
theorem shown_is (k : Nat) (hk : 1 ≤ k) : cambiumlaw04_shown.f k = some true := by
  obtain ⟨k, rfl⟩ : ∃ m, k = m + 1 := ⟨k - 1, by omega⟩
  have hm : sealMay 3 5 1 0 2 = true := by decide
  have hl : ([7] : List Int).length ≤ 236 := by decide
  have hb : Bytes [7] := fun x hx => by obtain rfl := List.mem_singleton.1 hx; decide
  have hlen := block_len 3 5 1 0 2 [7] hl
  have hbb := block_bytes 3 5 1 0 2 [7] hm hb
  have hop := seal_open 3 5 1 0 2 [7] hm hl
  have hcut : ((block 3 5 1 0 2 [7]).take 22).drop 4 = [3, 0, 0, 5, 0, 1, 0, 0, 0, 0, 2, 0, 0, 0, 0, 0, 7, 0] := by
    unfold block
    rw [List.take_append, List.drop_append, digits_length, List.take_of_length_le (by rw [digits_length]; omega), List.drop_of_length_le (by rw [digits_length]; omega), List.nil_append, row_dig _ _ _ _ _ _ hm]
    decide +kernel
  unfold cambiumlaw04_shown.f
  rw [Seal_is, sealR_ok _ _ _ _ _ _ hm hl]
  generalize block 3 5 1 0 2 [7] = b at *
  have hh : (((b.length : Nat) : Int) != 256) = false := by rw [hlen]; rfl
  simp only [Option.bind_some, if_true, hh, cambiumlaw04_shown.j0]
  unfold seal_Check.f
  rw [Open_is b hbb (by omega), hop]
  have e1 : (strOfNums [3, 0, 0, 5, 0, 1, 0, 0, 0, 0, 2, 0, 0, 0, 0, 0, 7, 0]).toList = ([3, 0, 0, 5, 0, 1, 0, 0, 0, 0, 2, 0, 0, 0, 0, 0, 7, 0] : List UInt8) := by decide +kernel
  have e2 : (([7] : List Int) ++ List.replicate (236 - ([7] : List Int).length) 0).length = 236 := by decide +kernel
  have e3 : rd (([7] : List Int) ++ List.replicate (236 - ([7] : List Int).length) 0) 0 = 7 := by decide +kernel
  generalize ([7] : List Int) ++ List.replicate (236 - ([7] : List Int).length) 0 = body at *
  simp only [Option.bind_some, if_true, hcut, e1, e2, e3, hlen]
  rw [if_neg (by decide), if_neg (show ¬ (5 : Int) = 6 by decide)]
  simp only [Option.bind_some]
  decide +kernel
/-- What Check answers. -/
def checkR (l : List Int) (a b : Int) : Int × Int × Int × Int × Int × List Int × Int :=
  if (openR l).2.2.2.2.2.2 = 0 then (if (openR l).1 = a then (if (openR l).2.1 = b then ((openR l).1, (openR l).2.1, (openR l).2.2.1, (openR l).2.2.2.1, (openR l).2.2.2.2.1, (openR l).2.2.2.2.2.1, 0) else (0, 0, 0, 0, 0, [], 3)) else (0, 0, 0, 0, 0, [], 3)) else (0, 0, 0, 0, 0, [], 3)
theorem Check_is (l : List Int) (a b : Int) (hb : Bytes l) (hl : l.length ≤ 1000) : seal_Check.f l a b = some (checkR l a b) := by
  unfold seal_Check.f checkR
  rw [Open_is l hb hl, Option.bind_some]
  split
  · split
    · split <;> rfl
    · rfl
  · rfl
end Go.Proofs.Ytcadbpneldjpbaa.SealLem
