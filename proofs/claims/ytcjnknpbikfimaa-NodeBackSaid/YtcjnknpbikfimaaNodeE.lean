import Derived.Test.YtcjnknpbikfimaaNodeA
import Derived.Test.YtcjnknpbikfimaaPx33
/-! A node is the same as itself. -/
namespace Go.Proofs.Ytcjnknpbikfimaa.NodeLem
open Go.RowKit Go.Proofs.Ytcjnknpbikfimaa.P Go.Proofs.YtcjnknpbikfimaaW.PrintWords Go.Proofs.YtcjnknpbikfimaaW.PrintLast
set_option linter.unusedVariables false
set_option linter.unusedSimpArgs false
theorem Same_loop1 (lv : Int) (l : List S52) (m : List S57) (hm : m.length ≤ 1000) (d : Nat) : ∀ k i, i + d = m.length → d < k → cambiumref06_Same.l1 k (i : Int) lv l m lv l m = some true := by
  induction d with
  | zero =>
    intro k i hi hk
    obtain ⟨k, rfl⟩ : ∃ q, k = q + 1 := ⟨k - 1, by omega⟩
    simp only [cambiumref06_Same.l1]
    rw [if_neg (by omega)]
  | succ d ih =>
    intro k i hi hk
    obtain ⟨k, rfl⟩ : ∃ q, k = q + 1 := ⟨k - 1, by omega⟩
    simp only [cambiumref06_Same.l1]
    rw [if_pos (by omega), if_pos (by omega), if_pos (by omega), inc64 i (by omega), ih k (i + 1) (by omega) (by omega)]
    simp
theorem Same_loop0 (lv : Int) (l : List S52) (m : List S57) (hl : l.length ≤ 1000) (hm : m.length ≤ 1000) (d : Nat) : ∀ k i, i + d = l.length → d + m.length + 1 < k → cambiumref06_Same.l0 k (i : Int) lv l m lv l m = some true := by
  induction d with
  | zero =>
    intro k i hi hk
    obtain ⟨k, rfl⟩ : ∃ q, k = q + 1 := ⟨k - 1, by omega⟩
    simp only [cambiumref06_Same.l0]
    rw [if_neg (by omega)]
    exact Same_loop1 lv l m hm m.length k 0 (by omega) (by omega)
  | succ d ih =>
    intro k i hi hk
    obtain ⟨k, rfl⟩ : ∃ q, k = q + 1 := ⟨k - 1, by omega⟩
    simp only [cambiumref06_Same.l0]
    rw [if_pos (by omega), if_pos (by omega), if_pos (by omega), inc64 i (by omega), ih k (i + 1) (by omega) (by omega)]
    simp
theorem Same_refl (k : Nat) (lv : Int) (l : List S52) (m : List S57) (hl : l.length ≤ 1000) (hm : m.length ≤ 1000) (hk : l.length + m.length + 4 ≤ k) : cambiumref06_Same.f k lv l m lv l m = some true := by
  obtain ⟨k, rfl⟩ : ∃ q, k = q + 1 := ⟨k - 1, by omega⟩
  unfold cambiumref06_Same.f
  rw [if_pos rfl, if_pos rfl]
  simp only [cambiumref06_Same.j0, bne_self_eq_false]
  rw [if_neg (by decide)]
  exact Same_loop0 lv l m hl hm l.length k 0 (by omega) (by omega)
end Go.Proofs.Ytcjnknpbikfimaa.NodeLem
