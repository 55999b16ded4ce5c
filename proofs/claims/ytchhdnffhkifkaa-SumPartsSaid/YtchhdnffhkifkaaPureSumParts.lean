/- The law SumParts holds: the sum goes on from part to part. No condition. -/
import Derived.Test.YtchhdnffhkifkaaSumOwn
import Derived.Test.YtchhdnffhkifkaaPx1
namespace Go.Proofs.Ytchhdnffhkifkaa.Pure
open Go.RowKit Go.Proofs.Ytchhdnffhkifkaa.P Go.Proofs.Ytchhdnffhkifkaa.SumOwn Go.Proofs.YtchhdnffhkifkaaW.PrintWords Go.Proofs.YtchhdnffhkifkaaW.PrintLast
theorem parts_loop (x0 : List (List Int)) (d : Nat) : ∀ (k : Nat) (acc : List Int) (i : Nat), 20 - i = d → i ≤ 20 → acc.length ≤ 100 * i → 2 * d + 2 ≤ k →
    cambiumlaw02_SumParts.l0 k x0 true acc (Crc.num (Crc.crc 0#32 (bv acc))) i = some true := by
  have last : ∀ k acc (i : Nat), cambiumlaw02_SumParts.j1 (k + 1) x0 true acc (Crc.num (Crc.crc 0#32 (bv acc))) i false = some true := by
    intro k acc i
    simp only [cambiumlaw02_SumParts.j1]
    rw [if_neg (by decide), sum_is]
    simp
  induction d with
  | zero =>
    intro k acc i hd hi hl hk
    obtain ⟨k, rfl⟩ : ∃ m, k = m + 2 := ⟨k - 2, by omega⟩
    simp only [cambiumlaw02_SumParts.l0]
    have h20 : decide ((i : Int) < 20) = false := by simp; omega
    rw [h20, last]
    split <;> rfl
  | succ d ih =>
    intro k acc i hd hi hl hk
    obtain ⟨k, rfl⟩ : ∃ m, k = m + 2 := ⟨k - 2, by omega⟩
    simp only [cambiumlaw02_SumParts.l0]
    by_cases hx : (i : Int) < (x0.length : Int)
    case neg => rw [if_neg hx, last]
    have h20 : decide ((i : Int) < 20) = true := by simp; omega
    rw [if_pos hx, h20]
    simp only [cambiumlaw02_SumParts.j1]
    rw [if_pos trivial, if_pos (by omega), if_pos hx]
    have hw : wrap64 ((i : Int) + 1) = ((i + 1 : Nat) : Int) := by unfold wrap64; omega
    generalize rd_L2 x0 (i : Int) = r
    by_cases hr : (r.length : Int) > 100
    · have hlt : (r.take 100).length ≤ 100 := List.length_take_le _ _
      rw [if_pos hr, if_pos (by omega), if_pos (by omega), more_num, Option.bind_some, hw, ← Crc.crc_append, ← bv_append]
      exact ih k _ (i + 1) (by omega) (by omega) (by rw [List.length_append]; omega) (by omega)
    · rw [if_neg hr, if_pos (by omega), more_num, Option.bind_some, hw, ← Crc.crc_append, ← bv_append]
      exact ih k _ (i + 1) (by omega) (by omega) (by rw [List.length_append]; omega) (by omega)
theorem SumParts : cambiumlaw02_SumParts.Pure := by
  intro l _
  refine ⟨100, ?_⟩
  unfold cambiumlaw02_SumParts.f cambiumlaw02_shown.f
  rw [Option.bind_some, sum_is, Option.bind_some]
  exact parts_loop l 20 100 [] 0 (by omega) (by omega) (by simp) (by omega)
end Go.Proofs.Ytchhdnffhkifkaa.Pure
