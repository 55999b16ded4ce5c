import Derived.Test.YtccliemfbmhpdaaNumLem
import Derived.Test.YtccliemfbmhpdaaPx3
import Derived.Test.YtccliemfbmhpdaaPx4
namespace Go.Proofs.Ytccliemfbmhpdaa.NumLem
open Go.RowKit Go.Proofs.Ytccliemfbmhpdaa.P Go.Proofs.YtccliemfbmhpdaaW.PrintWords Go.Proofs.YtccliemfbmhpdaaW.PrintLast
set_option linter.unusedVariables false
set_option linter.unusedSimpArgs false
theorem Compare_is (a b : Int) : cmp_Compare_int.f a b = some (if a < b then -1 else if a > b then 1 else 0) := by
  unfold cmp_Compare_int.f cmp_isNaN_int.f
  simp only [Option.bind_some, bne_self_eq_false]
  by_cases h : a < b
  · simp [h]
  · by_cases h2 : a > b
    · simp [h, h2]
    · simp [h, h2]
theorem Or_is (k : Nat) (x y z : Int) (hk : 4 ≤ k) : cmp_Or_int.f k [x, y, z] = some (if x = 0 then (if y = 0 then z else y) else x) := by
  obtain ⟨k, rfl⟩ : ∃ m, k = m + 4 := ⟨k - 4, by omega⟩
  have r0 : rd [x, y, z] 0 = x := rfl
  have r1 : rd [x, y, z] 1 = y := rfl
  have r2 : rd [x, y, z] 2 = z := rfl
  have s0 : wrap64 (0 + 1) = 1 := by decide +kernel
  have s1 : wrap64 (1 + 1) = 2 := by decide +kernel
  have s2 : wrap64 (2 + 1) = 3 := by decide +kernel
  have hl : (([x, y, z] : List Int).length : Int) = 3 := rfl
  unfold cmp_Or_int.f
  simp only [cmp_Or_int.l0, hl, r0, s0, r1, s1, r2, s2]
  by_cases h : x = 0
  · by_cases h1 : y = 0
    · by_cases h2 : z = 0
      · simp [h, h1, h2]
      · simp [h, h1, h2]
    · simp [h, h1]
  · simp [h]
/-- One key stands ahead of another. -/
def less (a0 a1 a2 b0 b1 b2 : Int) : Bool := decide (a0 < b0 ∨ a0 = b0 ∧ (a1 < b1 ∨ a1 = b1 ∧ a2 < b2))
theorem Less_is (k : Nat) (a0 a1 a2 b0 b1 b2 : Int) (hk : 4 ≤ k) : key_Less.f k a0 a1 a2 b0 b1 b2 = some (less a0 a1 a2 b0 b1 b2) := by
  unfold key_Less.f less
  simp only [Compare_is, Option.bind_some, Or_is k _ _ _ hk]
  congr 1
  rw [decide_eq_decide]
  rcases Int.lt_trichotomy a0 b0 with h | h | h
  · simp [h, Int.lt_irrefl]
  · subst h
    rcases Int.lt_trichotomy a1 b1 with h | h | h
    · simp [h, Int.lt_irrefl]
    · subst h
      rcases Int.lt_trichotomy a2 b2 with h | h | h
      · simp [h, Int.lt_irrefl]
      · subst h; simp
      · have h' : ¬ a2 < b2 := by omega
        simp [h, h']
    · have h' : ¬ a1 < b1 := by omega
      have h2 : ¬ a1 = b1 := by omega
      simp [h, h', h2]
  · have h' : ¬ a0 < b0 := by omega
    have h2 : ¬ a0 = b0 := by omega
    simp [h, h', h2]
/-- A key may be. -/
def may (a0 a1 a2 : Int) : Bool := decide (0 ≤ a0 ∧ a0 ≤ 2147483647 ∧ 0 ≤ a1 ∧ a1 ≤ 255 ∧ 0 ≤ a2 ∧ a2 ≤ 2147483647)
theorem May_is (a0 a1 a2 : Int) : key_May.f a0 a1 a2 = some (may a0 a1 a2) := by
  unfold key_May.f key_end.f may
  simp only [Option.bind_some]
  by_cases h0 : a0 ≥ 0 <;> by_cases h1 : a1 ≥ 0 <;> by_cases h2 : a2 ≥ 0 <;> by_cases h3 : a0 ≤ 2147483647 <;> by_cases h4 : a1 ≤ 255 <;> by_cases h5 : a2 ≤ 2147483647 <;> simp [h0, h1, h2, h3, h4, h5] <;> omega
theorem shown_is (k : Nat) (hk : 4 ≤ k) : cambiumlaw05_shown.f k = some true := by
  unfold cambiumlaw05_shown.f
  simp only [Less_is k _ _ _ _ _ _ hk]
  decide +kernel
end Go.Proofs.Ytccliemfbmhpdaa.NumLem
