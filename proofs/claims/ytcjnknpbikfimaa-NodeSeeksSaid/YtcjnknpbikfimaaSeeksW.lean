/- The law NodeSeeks, walked. -/
import Derived.Test.YtcjnknpbikfimaaPureNodeSeeks
import Derived.Test.YtcjnknpbikfimaaPx40
namespace Go.Proofs.Ytcjnknpbikfimaa.P
open Go.RowKit Go.Proofs.YtcjnknpbikfimaaW.PrintWords Go.Proofs.YtcjnknpbikfimaaW.PrintLast
set_option linter.unusedVariables false
theorem NodeSeeks_law (z0f0_n : Int) (z0f1_A : Option Addr) (z0f1_c : Nat) (z0f1_l : (List S52)) (z0f2_A : Option Addr) (z0f2_c : Nat) (z0f2_l : (List S57)) (z1f0_n : Int) (z1f1_n : Int) (z1f2_n : Int) (w : World) (h0 : Aside0 ((Lit.int .i64 z0f0_n).wf = true ∧ z0f1_l.length ≤ z0f1_c ∧ Kd.C k52 w z0f1_A z0f1_l.length z0f1_l ∧ (z0f1_l.length ≤ maxLen ∧ ∀ y0_ ∈ z0f1_l, (((Lit.int .i64 y0_.f0.f0).wf = true ∧ (Lit.int .i64 y0_.f0.f1).wf = true ∧ (Lit.int .i64 y0_.f0.f2).wf = true) ∧ (y0_.f1.length ≤ maxLen ∧ ∀ y1_ ∈ y0_.f1, (Lit.int .u8 y1_).wf = true))) ∧ z0f2_l.length ≤ z0f2_c ∧ Kd.C k57 w z0f2_A z0f2_l.length z0f2_l ∧ (z0f2_l.length ≤ maxLen ∧ ∀ y0_ ∈ z0f2_l, (((Lit.int .i64 y0_.f0.f0).wf = true ∧ (Lit.int .i64 y0_.f0.f1).wf = true ∧ (Lit.int .i64 y0_.f0.f2).wf = true) ∧ (Lit.int .i64 y0_.f1).wf = true)))) (h1 : Aside0 ((Lit.int .i64 z1f0_n).wf = true ∧ (Lit.int .i64 z1f1_n).wf = true ∧ (Lit.int .i64 z1f2_n).wf = true)) :
    Calls Try.prog 6 #[.agg #[.int .i64 z0f0_n, .slice z0f1_A z0f1_l.length z0f1_c, .slice z0f2_A z0f2_l.length z0f2_c], .agg #[.int .i64 z1f0_n, .int .i64 z1f1_n, .int .i64 z1f2_n]] w fun e w' => e = .returned (.bool true) ∧ Below w.heap.size w w' := by
  obtain ⟨_, hc1, hr1, hwf, hc2, hr2, _⟩ := h0.out
  have hb : NodeLem.BytesV (z0f1_l.take 20) := by
    intro j hj
    have hm : (z0f1_l.take 20).getD j z52 ∈ z0f1_l := by
      rw [List.getD_eq_getElem?_getD, List.getElem?_eq_getElem hj]
      exact List.mem_of_mem_take (List.getElem_mem hj)
    exact NumLem.Bytes.of_wf (hwf.2 _ hm).2.2
  obtain ⟨k, h⟩ := Pure.NodeSeeks z0f0_n z0f1_l z0f2_l z1f0_n z1f1_n z1f2_n hb
  refine (cambiumlaw06_NodeSeeks.calls k _ _ _ _ _ _ _ _ _ _ true w hr1 hc1 hr2 hc2 ⟨rfl⟩ h).mono ?_
  rintro e w' ⟨rfl, hb⟩
  exact ⟨rfl, hb⟩
end Go.Proofs.Ytcjnknpbikfimaa.P
