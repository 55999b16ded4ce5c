/- The law DriveBad: for every input its Go function answers true, and each argument reads afterwards as it read before. No condition. -/
import Derived.Test.YtoloibjdiojmlaaRows
import Derived.Test.YtoloibjdiojmlaaBad
import Derived.WalkKit
import Derived.ProofKit
import Derived.OpenShut
import Derived.ShutString
import Derived.ChangeOld
import Derived.Below
import Derived.SizedLaws
import Derived.Test.YtoloibjdiojmlaaWSized
import Derived.Test.YtoloibjdiojmlaaRead
namespace Go.Proofs.Ytoloibjdiojmlaa.driveBad
open Go.ChangeShapes Go.WideShapes Go.ChangeAt Go.RowKit
open Go.Proofs.YtoloibjdiojmlaaW.PrintWords Go.Proofs.YtoloibjdiojmlaaW.PrintLast Go.Proofs.Ytoloibjdiojmlaa Go.Proofs.Ytoloibjdiojmlaa.P
open Go.ChangeMaps (open_string shut_string)
set_option linter.unusedVariables false
set_option linter.unusedSimpArgs false
theorem own : ownKnob Try.prog.godebug = none := by kernel_rfl
theorem laidOut : laidOutB Try.prog = true := by kernel_rfl
theorem read_3 {H : Type} {enc : TypeId × Value → H} {W : World} (fuel : Nat) (cs : List Value) (x : DataW H × List MemPlace) (h : DataW.trod enc Try.prog W 0 (fun _ => true) true fuel 3 cs = some x) : ∃ (n : Int), cs = [.int .i64 n] ∧ (Lit.int .i64 n).wf = true := Read.int Try.underlying3 h
set_option maxRecDepth 100000 in
theorem read_31 {H : Type} {enc : TypeId × Value → H} {W : World} (fuel : Nat) (cs : List Value) (x : DataW H × List MemPlace) (h : DataW.trod enc Try.prog W 0 (fun _ => true) true fuel 31 cs = some x) : ∃ (f0_n : Int) (f1_n : Int), cs = [.int .i64 f0_n, .int .i64 f1_n] ∧ (Lit.int .i64 f0_n).wf = true ∧ (Lit.int .i64 f1_n).wf = true := by
  obtain ⟨hl, hf⟩ := Read.arr Try.underlying31 h
  rw [show Try.prog.cellsOf 31 = 2 from by kernel_rfl] at hl
  obtain ⟨c0, c1, rfl⟩ : ∃ c0 c1 : Value, cs = [c0, c1] := by
    match cs, hl with
    | [c0, c1], _ => exact ⟨c0, c1, rfl⟩
  obtain ⟨m0, y0, g0⟩ := hf 0 (by omega)
  (try dsimp only at g0)
  rw [show Try.prog.cellsOf 3 = 1 from by kernel_rfl] at g0
  obtain ⟨f0_n, e0, p0_0⟩ := read_3 _ _ _ g0
  obtain ⟨rfl⟩ : c0 = .int .i64 f0_n := by simpa using e0
  obtain ⟨m1, y1, g1⟩ := hf 1 (by omega)
  (try dsimp only at g1)
  rw [show Try.prog.cellsOf 3 = 1 from by kernel_rfl] at g1
  obtain ⟨f1_n, e1, p1_0⟩ := read_3 _ _ _ g1
  obtain ⟨rfl⟩ : c1 = .int .i64 f1_n := by simpa using e1
  exact ⟨f0_n, f1_n, rfl, p0_0, p1_0⟩
set_option maxRecDepth 100000 in
theorem lifted (os : Os) (started : os.Started) (H : Type) (enc : TypeId × Value → H) :
    ReturnsInHanded {} Try.checked os 7 .any (Rows.driveBadSpec.pre6 enc Try.prog Try.f7 Rows.driveBadRow.domain false) (Rows.driveBadSpec.post enc Try.prog Try.f7 false true false false) := by
  refine returnsInHanded_of_change_sized (C := Try.checked) own started (by kernel_rfl) Try.func7
    (ChangeSpec.witness6 (enc := enc) (C := Try.checked) false ⟨#[], #[.int .i64 0, .int .i64 0, .agg #[.int .i64 0, .int .i64 0]], []⟩ 8 (by kernel_rfl) (by kernel_rfl) (by kernel_rfl) (by kernel_rfl)) ?_
  intro W base args ds gs before hval0 hW hcnd hsz0 _
  have hsz : (DataW.weightsEach Try.prog (Try.f7.params.toList ++ Rows.driveBadSpec.plain.varTypes Try.prog) (ds ++ gs)).all (· ≤ reachBytes) = true := hsz0
  have hval : ∀ (j : Nat) t v, Try.f7.params[j]? = some t → args[j]? = some v → Value.okWide Try.prog W .any base t v := hval0
  have hW' := hW
  obtain ⟨p, q, hA0, hV, rfl, hfz, hnd⟩ := hW
  have hA : DataW.TrodAll enc Try.prog W 0 (fun _ => true) true Try.f7.params.toList args.toList ds p := hA0
  rw [Try.params7] at hA hval hsz
  obtain ⟨v0, vs0, d0, ds0, p0, q0, hargs, rfl, rfl, h0, r0⟩ := trodAll_cons hA
  obtain ⟨v1, vs1, d1, ds1, p1, q1, rfl, rfl, rfl, h1, r1⟩ := trodAll_cons r0
  obtain ⟨v2, vs2, d2, ds2, p2, q2, rfl, rfl, rfl, h2, r2⟩ := trodAll_cons r1
  obtain ⟨rfl, rfl, rfl⟩ := trodAll_nil r2
  obtain rfl : args = #[v0, v1, v2] := by cases args; simp_all
  obtain ⟨rfl, rfl⟩ := trodVars_none hV
  have k0 := h0
  have lt0 : ∀ x ∈ p0, x.block < W.heap.size := by obtain ⟨m, hm⟩ := k0; exact DataW.trod_lt m _ _ _ hm
  obtain ⟨a0, rfl⟩ := okWide_int Try.underlying3 (hval 0 3 v0 rfl rfl)
  obtain ⟨z0n, he0, x0_0⟩ : ∃ (z0n : Int), (.int .i64 a0 : Value).cells.toList = [.int .i64 z0n] ∧ (Lit.int .i64 z0n).wf = true := by obtain ⟨fuel, hf⟩ := h0; exact read_3 fuel _ _ hf
  obtain rfl := (show a0 = z0n from by simpa [Value.cells] using he0).symm
  have k1 := h1
  have lt1 : ∀ x ∈ p1, x.block < W.heap.size := by obtain ⟨m, hm⟩ := k1; exact DataW.trod_lt m _ _ _ hm
  obtain ⟨a1, rfl⟩ := okWide_int Try.underlying3 (hval 1 3 v1 rfl rfl)
  obtain ⟨z1n, he1, x1_0⟩ : ∃ (z1n : Int), (.int .i64 a1 : Value).cells.toList = [.int .i64 z1n] ∧ (Lit.int .i64 z1n).wf = true := by obtain ⟨fuel, hf⟩ := h1; exact read_3 fuel _ _ hf
  obtain rfl := (show a1 = z1n from by simpa [Value.cells] using he1).symm
  have k2 := h2
  have lt2 : ∀ x ∈ p2, x.block < W.heap.size := by obtain ⟨m, hm⟩ := k2; exact DataW.trod_lt m _ _ _ hm
  obtain ⟨cs2, rfl⟩ := Read.okWide_arr Try.underlying31 (hval 2 31 v2 rfl rfl)
  obtain ⟨z2f0_n, z2f1_n, he2, x2_0, x2_1⟩ : ∃ (z2f0_n : Int) (z2f1_n : Int), (.agg cs2 : Value).cells.toList = [.int .i64 z2f0_n, .int .i64 z2f1_n] ∧ (Lit.int .i64 z2f0_n).wf = true ∧ (Lit.int .i64 z2f1_n).wf = true := by obtain ⟨fuel, hf⟩ := h2; exact read_31 fuel _ _ hf
  obtain rfl : cs2 = #[.int .i64 z2f0_n, .int .i64 z2f1_n] := by obtain ⟨l_⟩ := cs2; exact congrArg Array.mk he2
  clear hA0 hval0 hsz0 hsz
  refine (DriveBad_law z0n z1n z2f0_n z2f1_n W ⟨x0_0⟩ ⟨x1_0⟩ ⟨⟨x2_0, x2_1⟩⟩).mono fun e W' ⟨he, bel⟩ => ?_
  subst he
  exact ⟨_, rfl, _, _, _, [], _, [], hW', trodAll_mk1 (shut_bool Try.underlying4 _), (trodAll_cons_mk (Below.trod laidOut (by kernel_rfl) (of_decide_eq_true (by kernel_rfl)) k0 bel lt0) (trodAll_cons_mk (Below.trod laidOut (by kernel_rfl) (of_decide_eq_true (by kernel_rfl)) k1 bel lt1) (trodAll_cons_mk (Below.trod laidOut (by kernel_rfl) (of_decide_eq_true (by kernel_rfl)) k2 bel lt2) trodAll_mk0))), rfl, bel.frame _, fun h => by cases h⟩
theorem over : Rows.driveBadRow.holds Try.pinned (OpenSpec.ofChange Rows.driveBadSpec) :=
  OpenClaim.holds_of_wide 7 Try.f7 rfl rfl rfl rfl rfl rfl rfl ⟨rfl, rfl, rfl, rfl, rfl⟩ rfl rfl rfl rfl rfl (by kernel_rfl) Try.func7 (by kernel_rfl)
    (of_decide_eq_true (by kernel_rfl)) (by unfold Func.isWrapper; first | (rw [if_pos (by decide +kernel)]; kernel_rfl) | (rw [if_neg (by decide +kernel)]; exact ⟨rfl, rfl⟩))
    (fun os started H enc _ => lifted os started H enc)
end Go.Proofs.Ytoloibjdiojmlaa.driveBad
namespace Go.Proofs.Ytoloibjdiojmlaa
/-- The row, under a short name, for the claim. -/
theorem driveBad_holds : Rows.DriveBadSaid := driveBad.over
#print axioms driveBad_holds
end Go.Proofs.Ytoloibjdiojmlaa
