/- Rows of pairs that came in; loops that end at the shorter of two bounds. -/
import Derived.Test.YtoloibjdiojmlaaDrv8
namespace Go.Proofs.Ytoloibjdiojmlaa.P
open Go.RowKit Go.Proofs.YtoloibjdiojmlaaW.PrintWords Go.Proofs.YtoloibjdiojmlaaW.PrintLast Go.Proofs.YtoloibjdiojmlaaW.PrintMore Go.Proofs.Ytoloibjdiojmlaa.Sep
set_option linter.unusedVariables false
section
variable {w0 w : World}
theorem pairs_at {A : Option Addr} {N : Nat} {l : List (Int × Int)} (hb : Below w0.heap.size w0 w) (hr : Kd.C (Kd.pair (Kd.int .i64) (Kd.int .i64)) w0 A N l) (j : Nat) (hj : j < N) :
    ∃ ad, A = some ad ∧ w.cell? (ad.add (j * 2)) = some (.int .i64 (l.getD j (0, 0)).1) ∧ w.cell? ⟨(ad.add (j * 2)).block, (ad.add (j * 2)).off + 1, none⟩ = some (.int .i64 (l.getD j (0, 0)).2) := by
  obtain ⟨ad, c, hA, hcl, hK, hcs⟩ := Kd.C_get hr (0, 0) (j : Int) (by omega) (by omega)
  rw [Int.toNat_natCast] at hK hcs
  obtain ⟨_, _, rfl, rfl, rfl⟩ := hK
  have hcw : ∀ k u, [Value.int .i64 (l.getD j (0, 0)).1, .int .i64 (l.getD j (0, 0)).2][k]? = some u → w.cell? (ad.add (j * 2 + k)) = some u := fun k u h => (hb.cell (World.block_lt_of_cell? w0 _ (hcs k u h))).trans (hcs k u h)
  exact ⟨ad, hA, hcw 0 _ rfl, by rw [← add_field ad (j * 2) 1 (by decide)]; exact hcw 1 _ rfl⟩
theorem pair_range {l : List (Int × Int)} (h : ∀ y ∈ l, ((Lit.int .i64 y.1).wf = true ∧ (Lit.int .i64 y.2).wf = true)) (j : Nat) : (-9223372036854775808 ≤ (l.getD j (0, 0)).1 ∧ (l.getD j (0, 0)).1 ≤ 9223372036854775807) ∧ (-9223372036854775808 ≤ (l.getD j (0, 0)).2 ∧ (l.getD j (0, 0)).2 ≤ 9223372036854775807) := by
  rw [List.getD_eq_getElem?_getD]
  cases hq : l[j]? with
  | none => exact ⟨by decide, by decide⟩
  | some y => exact ⟨i64_range (h y (List.mem_of_getElem? hq)).1, i64_range (h y (List.mem_of_getElem? hq)).2⟩
theorem o_both (M j N : Nat) : (j < N ∧ j < M ∧ decide ((j : Int) < (N : Int)) = true ∧ decide ((j : Int) < (M : Int)) = true ∧ (j : Int) < (N : Int) ∧ (j : Int) < (M : Int)) ∨ (¬ j < N ∧ decide ((j : Int) < (N : Int)) = false ∧ ¬ (j : Int) < (N : Int)) ∨ (j < N ∧ ¬ j < M ∧ decide ((j : Int) < (N : Int)) = true ∧ decide ((j : Int) < (M : Int)) = false ∧ (j : Int) < (N : Int) ∧ ¬ (j : Int) < (M : Int)) := by
  by_cases h : j < N
  · by_cases h2 : j < M
    · exact Or.inl ⟨h, h2, decide_eq_true (by omega), decide_eq_true (by omega), by omega, by omega⟩
    · exact Or.inr (Or.inr ⟨h, h2, decide_eq_true (by omega), decide_eq_false (by omega), by omega, by omega⟩)
  · exact Or.inr (Or.inl ⟨h, decide_eq_false (by omega), by omega⟩)
theorem incM (j : Nat) (h : j < 100000) : wrap64 ((j : Int) + 1) = ((j + 1 : Nat) : Int) := by unfold wrap64; omega
theorem measM (M z : Nat) (h : z < M) (y : Int) (hy : y = ((z + 1 : Nat) : Int)) : M - (intOf (.int .i64 y)).toNat < M - (intOf (.int .i64 (z : Int))).toNat := by
  subst hy
  simp only [intOf, Int.toNat_natCast]
  omega
end
end Go.Proofs.Ytoloibjdiojmlaa.P
