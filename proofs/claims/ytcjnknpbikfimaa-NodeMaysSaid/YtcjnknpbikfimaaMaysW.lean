/- The law NodeMays, walked. -/
import Derived.Test.YtcjnknpbikfimaaPureNodeMays
import Derived.Test.YtcjnknpbikfimaaPx12
namespace Go.Proofs.Ytcjnknpbikfimaa.P
open Go.RowKit Go.Proofs.YtcjnknpbikfimaaW.PrintWords Go.Proofs.YtcjnknpbikfimaaW.PrintLast
set_option linter.unusedVariables false
theorem NodeMays_law (z0f0_n : Int) (z0f1_A : Option Addr) (z0f1_c : Nat) (z0f1_l : (List S52)) (z0f2_A : Option Addr) (z0f2_c : Nat) (z0f2_l : (List S57)) (w : World) (h0 : Aside0 ((Lit.int .i64 z0f0_n).wf = true ∧ z0f1_l.length ≤ z0f1_c ∧ Kd.C k52 w z0f1_A z0f1_l.length z0f1_l ∧ (z0f1_l.length ≤ maxLen ∧ ∀ y0_ ∈ z0f1_l, (((Lit.int .i64 y0_.f0.f0).wf = true ∧ (Lit.int .i64 y0_.f0.f1).wf = true ∧ (Lit.int .i64 y0_.f0.f2).wf = true) ∧ (y0_.f1.length ≤ maxLen ∧ ∀ y1_ ∈ y0_.f1, (Lit.int .u8 y1_).wf = true))) ∧ z0f2_l.length ≤ z0f2_c ∧ Kd.C k57 w z0f2_A z0f2_l.length z0f2_l ∧ (z0f2_l.length ≤ maxLen ∧ ∀ y0_ ∈ z0f2_l, (((Lit.int .i64 y0_.f0.f0).wf = true ∧ (Lit.int .i64 y0_.f0.f1).wf = true ∧ (Lit.int .i64 y0_.f0.f2).wf = true) ∧ (Lit.int .i64 y0_.f1).wf = true)))) :
    Calls Try.prog 3 #[.agg #[.int .i64 z0f0_n, .slice z0f1_A z0f1_l.length z0f1_c, .slice z0f2_A z0f2_l.length z0f2_c]] w fun e w' => e = .returned (.bool true) ∧ Below w.heap.size w w' := by
  obtain ⟨_, hc1, hr1, _, hc2, hr2, _⟩ := h0.out
  obtain ⟨k, h⟩ := Pure.NodeMays z0f0_n z0f1_l z0f2_l
  refine (cambiumlaw06_NodeMays.calls k _ _ _ _ _ _ _ true w hr1 hc1 hr2 hc2 ⟨rfl⟩ h).mono ?_
  rintro e w' ⟨rfl, hb⟩
  exact ⟨rfl, hb⟩
end Go.Proofs.Ytcjnknpbikfimaa.P
