/- few: at most 20 items, and at most 20 kids. -/
import Derived.Test.YtcjnknpbikfimaaPx3
import Derived.Test.YtcjnknpbikfimaaSep
namespace Go.Proofs.Ytcjnknpbikfimaa.P
open Go.RowKit Go.Proofs.YtcjnknpbikfimaaW.PrintWords Go.Proofs.YtcjnknpbikfimaaW.PrintLast Go.Proofs.YtcjnknpbikfimaaW.PrintMore
set_option linter.unusedVariables false
set_option maxHeartbeats 4000000 in
theorem few.st (lv : Int) (A1 : Option Addr) (N c1 : Nat) (A2 : Option Addr) (M c2 : Nat) (w : World) (h1 : N ≤ c1) (h2 : M ≤ c2) :
    Calls Try.prog 10 #[.agg #[.int .i64 lv, .slice A1 N c1, .slice A2 M c2]] w fun e w' => e = .returned (.agg #[.int .i64 lv, .slice A1 (min N 20) c1, .slice A2 (min M 20) c2]) ∧ Below w.heap.size w w' := by
  obtain ⟨i1, hi1, _⟩ := info_parts info52
  obtain ⟨i2, hi2, _⟩ := info_parts info57
  have HB := Aside0.mk (fun o1 o2 => below_alloc (below_alloc (Below.refl w.heap.size w) o1) o2)
  by_cases hN : 20 < N
  · have g1 : decide ((N : Int) > 20) = true := decide_eq_true (by omega)
    have k1 := cut_to (P := Try.prog) 22 52 .i64 Try.underlying22 hi1 A1 N c1 20 (by omega) (by omega) h1
    rw [show (20 : Int).toNat = 20 from rfl] at k1
    by_cases hM : 20 < M
    · have g2 : decide ((M : Int) > 20) = true := decide_eq_true (by omega)
      have k2 := cut_to (P := Try.prog) 23 57 .i64 Try.underlying23 hi2 A2 M c2 20 (by omega) (by omega) h2
      rw [show (20 : Int).toNat = 20 from rfl] at k2
      rw [Nat.min_eq_right (Nat.le_of_lt hN), Nat.min_eq_right (Nat.le_of_lt hM)]
      clear hi1 hi2 hN hM h1 h2
      go_enter Try.func10, Try.ntmps10
      go_wp2
      refine bodyPost_ret (results_cell_row rfl _ _ (w.heap.size + 1) 25 #[.int .i64 lv, .slice A1 20 c1, .slice A2 20 c2] (0, 0) _ rfl (by rw [← show (w.alloc (.cells #[.int .i64 lv, .slice A1 20 c1, .slice A2 20 c2] 25)).heap.size = w.heap.size + 1 from by simp]; exact heap_alloc_new _ _) Try.underlying25 rfl (by kernel_rfl)) rfl ?_
      exact ⟨rfl, HB.out _ _⟩
    · have g2 : decide ((M : Int) > 20) = false := decide_eq_false (by omega)
      rw [Nat.min_eq_right (Nat.le_of_lt hN), Nat.min_eq_left (Nat.le_of_not_lt hM)]
      clear hi1 hi2 hN hM h1 h2
      go_enter Try.func10, Try.ntmps10
      go_wp2
      refine bodyPost_ret (results_cell_row rfl _ _ (w.heap.size + 1) 25 #[.int .i64 lv, .slice A1 20 c1, .slice A2 M c2] (0, 0) _ rfl (by rw [← show (w.alloc (.cells #[.int .i64 lv, .slice A1 20 c1, .slice A2 M c2] 25)).heap.size = w.heap.size + 1 from by simp]; exact heap_alloc_new _ _) Try.underlying25 rfl (by kernel_rfl)) rfl ?_
      exact ⟨rfl, HB.out _ _⟩
  · have g1 : decide ((N : Int) > 20) = false := decide_eq_false (by omega)
    by_cases hM : 20 < M
    · have g2 : decide ((M : Int) > 20) = true := decide_eq_true (by omega)
      have k2 := cut_to (P := Try.prog) 23 57 .i64 Try.underlying23 hi2 A2 M c2 20 (by omega) (by omega) h2
      rw [show (20 : Int).toNat = 20 from rfl] at k2
      rw [Nat.min_eq_left (Nat.le_of_not_lt hN), Nat.min_eq_right (Nat.le_of_lt hM)]
      clear hi1 hi2 hN hM h1 h2
      go_enter Try.func10, Try.ntmps10
      go_wp2
      refine bodyPost_ret (results_cell_row rfl _ _ (w.heap.size + 1) 25 #[.int .i64 lv, .slice A1 N c1, .slice A2 20 c2] (0, 0) _ rfl (by rw [← show (w.alloc (.cells #[.int .i64 lv, .slice A1 N c1, .slice A2 20 c2] 25)).heap.size = w.heap.size + 1 from by simp]; exact heap_alloc_new _ _) Try.underlying25 rfl (by kernel_rfl)) rfl ?_
      exact ⟨rfl, HB.out _ _⟩
    · have g2 : decide ((M : Int) > 20) = false := decide_eq_false (by omega)
      rw [Nat.min_eq_left (Nat.le_of_not_lt hN), Nat.min_eq_left (Nat.le_of_not_lt hM)]
      clear hi1 hi2 hN hM h1 h2
      go_enter Try.func10, Try.ntmps10
      go_wp2
      refine bodyPost_ret (results_cell_row rfl _ _ (w.heap.size + 1) 25 #[.int .i64 lv, .slice A1 N c1, .slice A2 M c2] (0, 0) _ rfl (by rw [← show (w.alloc (.cells #[.int .i64 lv, .slice A1 N c1, .slice A2 M c2] 25)).heap.size = w.heap.size + 1 from by simp]; exact heap_alloc_new _ _) Try.underlying25 rfl (by kernel_rfl)) rfl ?_
      exact ⟨rfl, HB.out _ _⟩
end Go.Proofs.Ytcjnknpbikfimaa.P
