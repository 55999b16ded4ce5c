/- The law DriveKeeps: for every input its Go function answers true, and each argument reads afterwards as it read before. No condition. -/
import Derived.Test.YtoloibjdiojmlaaRows
import Derived.Test.YtoloibjdiojmlaaKeeps
import Derived.WalkKit
import Derived.ProofKit
import Derived.OpenShut
import Derived.ShutString
import Derived.ChangeOld
import Derived.Below
import Derived.SizedLaws
import Derived.Test.YtoloibjdiojmlaaWSized
import Derived.Test.YtoloibjdiojmlaaRead
namespace Go.Proofs.Ytoloibjdiojmlaa.driveKeeps
open Go.ChangeShapes Go.WideShapes Go.ChangeAt Go.RowKit
open Go.Proofs.YtoloibjdiojmlaaW.PrintWords Go.Proofs.YtoloibjdiojmlaaW.PrintLast Go.Proofs.Ytoloibjdiojmlaa Go.Proofs.Ytoloibjdiojmlaa.P
open Go.ChangeMaps (open_string shut_string)
set_option linter.unusedVariables false
set_option linter.unusedSimpArgs false
theorem own : ownKnob Try.prog.godebug = none := by kernel_rfl
theorem laidOut : laidOutB Try.prog = true := by kernel_rfl
theorem read_3 {H : Type} {enc : TypeId × Value → H} {W : World} (fuel : Nat) (cs : List Value) (x : DataW H × List MemPlace) (h : DataW.trod enc Try.prog W 0 (fun _ => true) true fuel 3 cs = some x) : ∃ (n : Int), cs = [.int .i64 n] ∧ (Lit.int .i64 n).wf = true := Read.int Try.underlying3 h
set_option maxRecDepth 100000 in
theorem read_31 {H : Type} {enc : TypeId × Value → H} {W : World} (fuel : Nat) (cs : List Value) (x : DataW H × List MemPlace) (h : DataW.trod enc Try.prog W 0 (fun _ => true) true fuel 31 cs = some x) : ∃ (f0_n : Int) (f1_n : Int), cs = [.int .i64 f0_n, .int .i64 f1_n] ∧ (Lit.int .i64 f0_n).wf = true ∧ (Lit.int .i64 f1_n).wf = true := by
  obtain ⟨hl, hf⟩ := Read.arr Try.underlying31 h
  rw [show Try.prog.cellsOf 31 = 2 from by kernel_rfl] at hl
  obtain ⟨c0, c1, rfl⟩ : ∃ c0 c1 : Value, cs = [c0, c1] := by
    match cs, hl with
    | [c0, c1], _ => exact ⟨c0, c1, rfl⟩
  obtain ⟨m0, y0, g0⟩ := hf 0 (by omega)
  (try dsimp only at g0)
  rw [show Try.prog.cellsOf 3 = 1 from by kernel_rfl] at g0
  obtain ⟨f0_n, e0, p0_0⟩ := read_3 _ _ _ g0
  obtain ⟨rfl⟩ : c0 = .int .i64 f0_n := by simpa using e0
  obtain ⟨m1, y1, g1⟩ := hf 1 (by omega)
  (try dsimp only at g1)
  rw [show Try.prog.cellsOf 3 = 1 from by kernel_rfl] at g1
  obtain ⟨f1_n, e1, p1_0⟩ := read_3 _ _ _ g1
  obtain ⟨rfl⟩ : c1 = .int .i64 f1_n := by simpa using e1
  exact ⟨f0_n, f1_n, rfl, p0_0, p1_0⟩
theorem read_22 {H : Type} {enc : TypeId × Value → H} {W : World} (fuel : Nat) (cs : List Value) (x : DataW H × List MemPlace) (h : DataW.trod enc Try.prog W 0 (fun _ => true) true fuel 22 cs = some x) : ∃ (A : Option Addr) (c : Nat) (l : (List (Int × Int))), cs = [.slice A l.length c] ∧ l.length ≤ c ∧ Kd.C (Kd.pair (Kd.int .i64) (Kd.int .i64)) W A l.length l ∧ (l.length ≤ maxLen ∧ ∀ y0_ ∈ l, ((Lit.int .i64 y0_.1).wf = true ∧ (Lit.int .i64 y0_.2).wf = true)) := Read.slice (Kd.pair (Kd.int .i64) (Kd.int .i64)) (fun y_ => ((Lit.int .i64 y_.1).wf = true ∧ (Lit.int .i64 y_.2).wf = true)) Try.underlying22 (by kernel_rfl) (fun fuel cs x h => by obtain ⟨f0_n, f1_n, rfl, q0, q1⟩ := read_31 fuel cs x h; exact ⟨(⟨f0_n, f1_n⟩ : (Int × Int)), ⟨[.int .i64 f0_n], _, rfl, rfl, rfl⟩, ⟨q0, q1⟩⟩) h
theorem read_23 {H : Type} {enc : TypeId × Value → H} {W : World} (fuel : Nat) (cs : List Value) (x : DataW H × List MemPlace) (h : DataW.trod enc Try.prog W 0 (fun _ => true) true fuel 23 cs = some x) : ∃ (A : Option Addr) (c : Nat) (l : (List Int)), cs = [.slice A l.length c] ∧ l.length ≤ c ∧ Kd.C (Kd.int .i64) W A l.length l ∧ (l.length ≤ maxLen ∧ ∀ y0_ ∈ l, (Lit.int .i64 y0_).wf = true) := Read.slice (Kd.int .i64) (fun y_ => (Lit.int .i64 y_).wf = true) Try.underlying23 (by kernel_rfl) (fun fuel cs x h => by obtain ⟨n, rfl, q0⟩ := read_3 fuel cs x h; exact ⟨n, rfl, q0⟩) h
set_option maxRecDepth 100000 in
theorem lifted (os : Os) (started : os.Started) (H : Type) (enc : TypeId × Value → H) :
    ReturnsInHanded {} Try.checked os 3 .any (Rows.driveKeepsSpec.pre6 enc Try.prog Try.f3 Rows.driveKeepsRow.domain false) (Rows.driveKeepsSpec.post enc Try.prog Try.f3 false true false false) := by
  refine returnsInHanded_of_change_sized (C := Try.checked) own started (by kernel_rfl) Try.func3
    (ChangeSpec.witness6 (enc := enc) (C := Try.checked) false ⟨#[], #[.slice none 0 0, .slice none 0 0, .slice none 0 0], []⟩ 8 (by kernel_rfl) (by kernel_rfl) (by kernel_rfl) (by kernel_rfl)) ?_
  intro W base args ds gs before hval0 hW hcnd hsz0 _
  have hsz : (DataW.weightsEach Try.prog (Try.f3.params.toList ++ Rows.driveKeepsSpec.plain.varTypes Try.prog) (ds ++ gs)).all (· ≤ reachBytes) = true := hsz0
  have hval : ∀ (j : Nat) t v, Try.f3.params[j]? = some t → args[j]? = some v → Value.okWide Try.prog W .any base t v := hval0
  have hW' := hW
  obtain ⟨p, q, hA0, hV, rfl, hfz, hnd⟩ := hW
  have hA : DataW.TrodAll enc Try.prog W 0 (fun _ => true) true Try.f3.params.toList args.toList ds p := hA0
  rw [Try.params3] at hA hval hsz
  obtain ⟨v0, vs0, d0, ds0, p0, q0, hargs, rfl, rfl, h0, r0⟩ := trodAll_cons hA
  obtain ⟨v1, vs1, d1, ds1, p1, q1, rfl, rfl, rfl, h1, r1⟩ := trodAll_cons r0
  obtain ⟨v2, vs2, d2, ds2, p2, q2, rfl, rfl, rfl, h2, r2⟩ := trodAll_cons r1
  obtain ⟨rfl, rfl, rfl⟩ := trodAll_nil r2
  obtain rfl : args = #[v0, v1, v2] := by cases args; simp_all
  obtain ⟨rfl, rfl⟩ := trodVars_none hV
  have k0 := h0
  have lt0 : ∀ x ∈ p0, x.block < W.heap.size := by obtain ⟨m, hm⟩ := k0; exact DataW.trod_lt m _ _ _ hm
  obtain ⟨a0, len0, cap0, rfl⟩ := okWide_slice Try.underlying22 (hval 0 22 v0 rfl rfl)
  obtain ⟨z0A, z0c, z0l, he0, x0_0, x0_1, x0_2⟩ : ∃ (z0A : Option Addr) (z0c : Nat) (z0l : (List (Int × Int))), (.slice a0 len0 cap0 : Value).cells.toList = [.slice z0A z0l.length z0c] ∧ z0l.length ≤ z0c ∧ Kd.C (Kd.pair (Kd.int .i64) (Kd.int .i64)) W z0A z0l.length z0l ∧ (z0l.length ≤ maxLen ∧ ∀ y0_ ∈ z0l, ((Lit.int .i64 y0_.1).wf = true ∧ (Lit.int .i64 y0_.2).wf = true)) := by obtain ⟨fuel, hf⟩ := h0; exact read_22 fuel _ _ hf
  obtain ⟨ea0, el0, ec0⟩ : a0 = z0A ∧ len0 = z0l.length ∧ cap0 = z0c := by simpa [Value.cells] using he0
  obtain rfl := ea0.symm
  obtain rfl := el0
  obtain rfl := ec0.symm
  have k1 := h1
  have lt1 : ∀ x ∈ p1, x.block < W.heap.size := by obtain ⟨m, hm⟩ := k1; exact DataW.trod_lt m _ _ _ hm
  obtain ⟨a1, len1, cap1, rfl⟩ := okWide_slice Try.underlying22 (hval 1 22 v1 rfl rfl)
  obtain ⟨z1A, z1c, z1l, he1, x1_0, x1_1, x1_2⟩ : ∃ (z1A : Option Addr) (z1c : Nat) (z1l : (List (Int × Int))), (.slice a1 len1 cap1 : Value).cells.toList = [.slice z1A z1l.length z1c] ∧ z1l.length ≤ z1c ∧ Kd.C (Kd.pair (Kd.int .i64) (Kd.int .i64)) W z1A z1l.length z1l ∧ (z1l.length ≤ maxLen ∧ ∀ y0_ ∈ z1l, ((Lit.int .i64 y0_.1).wf = true ∧ (Lit.int .i64 y0_.2).wf = true)) := by obtain ⟨fuel, hf⟩ := h1; exact read_22 fuel _ _ hf
  obtain ⟨ea1, el1, ec1⟩ : a1 = z1A ∧ len1 = z1l.length ∧ cap1 = z1c := by simpa [Value.cells] using he1
  obtain rfl := ea1.symm
  obtain rfl := el1
  obtain rfl := ec1.symm
  have k2 := h2
  have lt2 : ∀ x ∈ p2, x.block < W.heap.size := by obtain ⟨m, hm⟩ := k2; exact DataW.trod_lt m _ _ _ hm
  obtain ⟨a2, len2, cap2, rfl⟩ := okWide_slice Try.underlying23 (hval 2 23 v2 rfl rfl)
  obtain ⟨z2A, z2c, z2l, he2, x2_0, x2_1, x2_2⟩ : ∃ (z2A : Option Addr) (z2c : Nat) (z2l : (List Int)), (.slice a2 len2 cap2 : Value).cells.toList = [.slice z2A z2l.length z2c] ∧ z2l.length ≤ z2c ∧ Kd.C (Kd.int .i64) W z2A z2l.length z2l ∧ (z2l.length ≤ maxLen ∧ ∀ y0_ ∈ z2l, (Lit.int .i64 y0_).wf = true) := by obtain ⟨fuel, hf⟩ := h2; exact read_23 fuel _ _ hf
  obtain ⟨ea2, el2, ec2⟩ : a2 = z2A ∧ len2 = z2l.length ∧ cap2 = z2c := by simpa [Value.cells] using he2
  obtain rfl := ea2.symm
  obtain rfl := el2
  obtain rfl := ec2.symm
  clear hA0 hval0 hsz0 hsz
  refine (DriveKeeps_law z0A z0c z0l z1A z1c z1l z2A z2c z2l W ⟨⟨x0_0, x0_1, x0_2⟩⟩ ⟨⟨x1_0, x1_1, x1_2⟩⟩ ⟨⟨x2_0, x2_1, x2_2⟩⟩).mono fun e W' ⟨he, bel⟩ => ?_
  subst he
  exact ⟨_, rfl, _, _, _, [], _, [], hW', trodAll_mk1 (shut_bool Try.underlying4 _), (trodAll_cons_mk (Below.trod laidOut (by kernel_rfl) (of_decide_eq_true (by kernel_rfl)) k0 bel lt0) (trodAll_cons_mk (Below.trod laidOut (by kernel_rfl) (of_decide_eq_true (by kernel_rfl)) k1 bel lt1) (trodAll_cons_mk (Below.trod laidOut (by kernel_rfl) (of_decide_eq_true (by kernel_rfl)) k2 bel lt2) trodAll_mk0))), rfl, bel.frame _, fun h => by cases h⟩
theorem over : Rows.driveKeepsRow.holds Try.pinned (OpenSpec.ofChange Rows.driveKeepsSpec) :=
  OpenClaim.holds_of_wide 3 Try.f3 rfl rfl rfl rfl rfl rfl rfl ⟨rfl, rfl, rfl, rfl, rfl⟩ rfl rfl rfl rfl rfl (by kernel_rfl) Try.func3 (by kernel_rfl)
    (of_decide_eq_true (by kernel_rfl)) (by unfold Func.isWrapper; first | (rw [if_pos (by decide +kernel)]; kernel_rfl) | (rw [if_neg (by decide +kernel)]; exact ⟨rfl, rfl⟩))
    (fun os started H enc _ => lifted os started H enc)
end Go.Proofs.Ytoloibjdiojmlaa.driveKeeps
namespace Go.Proofs.Ytoloibjdiojmlaa
/-- The row, under a short name, for the claim. -/
theorem driveKeeps_holds : Rows.DriveKeepsSaid := driveKeeps.over
#print axioms driveKeeps_holds
end Go.Proofs.Ytoloibjdiojmlaa
