import Derived.Test.YtjpebckmjlmkmaaNumCore
import Derived.Test.YtjpebckmjlmkmaaPx3
/-! What the reference's Put answers. -/
namespace Go.Proofs.Ytjpebckmjlmkmaa.NumLem
open Go.RowKit Go.Proofs.Ytjpebckmjlmkmaa.P Go.Proofs.YtjpebckmjlmkmaaW.PrintWords Go.Proofs.YtjpebckmjlmkmaaW.PrintLast
set_option linter.unusedVariables false
set_option linter.unusedSimpArgs false
theorem digits_cons (n : Nat) : ∀ v : Int, digits v (n + 1) = (v / 256 ^ n % 256) :: digits v n := by
  induction n with
  | zero => intro v; simp [digits]
  | succ n ih =>
    intro v
    rw [digits, ih (v / 256), List.cons_append, Int.ediv_ediv_of_nonneg (by decide)]
    have e : (256 : Int) * 256 ^ n = 256 ^ (n + 1) := by rw [Int.pow_succ, Int.mul_comm]
    rw [e]
    rfl
theorem u64_range (x : Int) : 0 ≤ IntKind.u64.wrap x ∧ IntKind.u64.wrap x < 18446744073709551616 := by
  simp [IntKind.wrap, IntKind.bits, IntKind.signed]
  omega
theorem shr_is (v : Int) (j : Nat) (hj : j < 8) (h0 : 0 ≤ v) (h1 : v < 18446744073709551616) : shr .u64 v (wrap64 (8 * (j : Int))) % 256 = v / 256 ^ j % 256 := by
  rw [w64_small (by omega) (by omega)]
  have hh : j = 0 ∨ j = 1 ∨ j = 2 ∨ j = 3 ∨ j = 4 ∨ j = 5 ∨ j = 6 ∨ j = 7 := by omega
  rcases hh with h | h | h | h | h | h | h | h <;> subst h <;> simp [shr, IntKind.wrap, IntKind.bits, IntKind.signed] <;> omega
theorem refPut_loop (x : Int) (d : Nat) : ∀ (k : Nat) (acc : List Int) (j : Int), j + 1 = d → d ≤ 8 → d < k → acc.length + d ≤ 140737488355328 →
    cambiumref01_Put.l0 k x acc j = some (acc ++ digits (IntKind.u64.wrap x) d) := by
  induction d with
  | zero =>
    intro k acc j hj hd hk hl
    obtain ⟨k, rfl⟩ : ∃ m, k = m + 1 := ⟨k - 1, by omega⟩
    simp only [cambiumref01_Put.l0]
    rw [if_neg (by omega)]
    simp [digits]
  | succ d ih =>
    intro k acc j hj hd hk hl
    obtain ⟨k, rfl⟩ : ∃ m, k = m + 1 := ⟨k - 1, by omega⟩
    obtain rfl : j = (d : Int) := by omega
    simp only [cambiumref01_Put.l0]
    have hu := u64_range x
    rw [if_pos (by omega), if_pos (by rw [w64_small (by omega) (by omega)]; omega), if_pos (by omega), shr_is _ d (by omega) hu.1 hu.2, w64_small (by omega) (by omega)]
    rw [ih k _ _ (by omega) (by omega) (by omega) (by rw [List.length_append, List.length_singleton]; omega), digits_cons]
    simp
theorem refPut_k (k : Nat) (hk : 10 ≤ k) (l : List Int) (x n : Int) (hl : l.length ≤ 140737488355320) : cambiumref01_Put.f k l x n = some (putR l x n) := by
  obtain ⟨k, rfl⟩ : ∃ m, k = m + 1 := ⟨k - 1, by omega⟩
  unfold cambiumref01_Put.f putR
  simp only [Option.bind_some, List.nil_append, List.length_nil]
  rw [if_pos (by omega)]
  by_cases h1 : n < 1
  · rw [if_pos h1, if_pos (Or.inl h1)]; simp [cambiumref01_Put.j0]
  rw [if_neg h1]
  by_cases h2 : n > 8
  · rw [if_pos (Or.inr h2)]; simp [cambiumref01_Put.j0, h2]
  rw [if_neg (by omega)]
  have : decide (n > 8) = false := by simpa using h2
  rw [this]
  simp only [cambiumref01_Put.j0]
  rw [if_neg (by decide), w64_small (by omega) (by omega)]
  exact refPut_loop x n.toNat k l (n - 1) (by omega) (by omega) (by omega) (by omega)
theorem refPut_is (l : List Int) (x n : Int) (hl : l.length ≤ 140737488355320) : cambiumref01_Put.f 20 l x n = some (putR l x n) := refPut_k 20 (by omega) l x n hl
end Go.Proofs.Ytjpebckmjlmkmaa.NumLem
