/- The law DrivePlays: for every input its Go function answers true, and each argument reads afterwards as it read before. No condition. -/
import Derived.Test.YtoloibjdiojmlaaRows
import Derived.Test.YtoloibjdiojmlaaPlays
import Derived.WalkKit
import Derived.ProofKit
import Derived.OpenShut
import Derived.ShutString
import Derived.ChangeOld
import Derived.Below
import Derived.SizedLaws
import Derived.Test.YtoloibjdiojmlaaWSized
import Derived.Test.YtoloibjdiojmlaaRead
namespace Go.Proofs.Ytoloibjdiojmlaa.drivePlays
open Go.ChangeShapes Go.WideShapes Go.ChangeAt Go.RowKit
open Go.Proofs.YtoloibjdiojmlaaW.PrintWords Go.Proofs.YtoloibjdiojmlaaW.PrintLast Go.Proofs.Ytoloibjdiojmlaa Go.Proofs.Ytoloibjdiojmlaa.P
open Go.ChangeMaps (open_string shut_string)
set_option linter.unusedVariables false
set_option linter.unusedSimpArgs false
theorem own : ownKnob Try.prog.godebug = none := by kernel_rfl
theorem laidOut : laidOutB Try.prog = true := by kernel_rfl
theorem read_3 {H : Type} {enc : TypeId × Value → H} {W : World} (fuel : Nat) (cs : List Value) (x : DataW H × List MemPlace) (h : DataW.trod enc Try.prog W 0 (fun _ => true) true fuel 3 cs = some x) : ∃ (n : Int), cs = [.int .i64 n] ∧ (Lit.int .i64 n).wf = true := Read.int Try.underlying3 h
theorem read_23 {H : Type} {enc : TypeId × Value → H} {W : World} (fuel : Nat) (cs : List Value) (x : DataW H × List MemPlace) (h : DataW.trod enc Try.prog W 0 (fun _ => true) true fuel 23 cs = some x) : ∃ (A : Option Addr) (c : Nat) (l : (List Int)), cs = [.slice A l.length c] ∧ l.length ≤ c ∧ Kd.C (Kd.int .i64) W A l.length l ∧ (l.length ≤ maxLen ∧ ∀ y0_ ∈ l, (Lit.int .i64 y0_).wf = true) := Read.slice (Kd.int .i64) (fun y_ => (Lit.int .i64 y_).wf = true) Try.underlying23 (by kernel_rfl) (fun fuel cs x h => by obtain ⟨n, rfl, q0⟩ := read_3 fuel cs x h; exact ⟨n, rfl, q0⟩) h
set_option maxRecDepth 100000 in
theorem read_54 {H : Type} {enc : TypeId × Value → H} {W : World} (fuel : Nat) (cs : List Value) (x : DataW H × List MemPlace) (h : DataW.trod enc Try.prog W 0 (fun _ => true) true fuel 54 cs = some x) : ∃ (f0_n : Int) (f1_n : Int) (f2_n : Int) (f3_n : Int) (f4_A : Option Addr) (f4_c : Nat) (f4_l : (List Int)), cs = [.int .i64 f0_n, .int .i64 f1_n, .int .i64 f2_n, .int .i64 f3_n, .slice f4_A f4_l.length f4_c] ∧ (Lit.int .i64 f0_n).wf = true ∧ (Lit.int .i64 f1_n).wf = true ∧ (Lit.int .i64 f2_n).wf = true ∧ (Lit.int .i64 f3_n).wf = true ∧ f4_l.length ≤ f4_c ∧ Kd.C (Kd.int .i64) W f4_A f4_l.length f4_l ∧ (f4_l.length ≤ maxLen ∧ ∀ y0_ ∈ f4_l, (Lit.int .i64 y0_).wf = true) := by
  obtain ⟨hl, hf⟩ := Read.struct Try.underlying54 h
  rw [show Try.prog.cellsOf 54 = 5 from by kernel_rfl] at hl
  obtain ⟨c0, c1, c2, c3, c4, rfl⟩ : ∃ c0 c1 c2 c3 c4 : Value, cs = [c0, c1, c2, c3, c4] := by
    match cs, hl with
    | [c0, c1, c2, c3, c4], _ => exact ⟨c0, c1, c2, c3, c4, rfl⟩
  obtain ⟨m0, y0, g0⟩ := hf 0 _ rfl
  (try dsimp only at g0)
  rw [show Try.prog.cellsOf 3 = 1 from by kernel_rfl] at g0
  obtain ⟨f0_n, e0, p0_0⟩ := read_3 _ _ _ g0
  obtain ⟨rfl⟩ : c0 = .int .i64 f0_n := by simpa using e0
  obtain ⟨m1, y1, g1⟩ := hf 1 _ rfl
  (try dsimp only at g1)
  rw [show Try.prog.cellsOf 3 = 1 from by kernel_rfl] at g1
  obtain ⟨f1_n, e1, p1_0⟩ := read_3 _ _ _ g1
  obtain ⟨rfl⟩ : c1 = .int .i64 f1_n := by simpa using e1
  obtain ⟨m2, y2, g2⟩ := hf 2 _ rfl
  (try dsimp only at g2)
  rw [show Try.prog.cellsOf 3 = 1 from by kernel_rfl] at g2
  obtain ⟨f2_n, e2, p2_0⟩ := read_3 _ _ _ g2
  obtain ⟨rfl⟩ : c2 = .int .i64 f2_n := by simpa using e2
  obtain ⟨m3, y3, g3⟩ := hf 3 _ rfl
  (try dsimp only at g3)
  rw [show Try.prog.cellsOf 3 = 1 from by kernel_rfl] at g3
  obtain ⟨f3_n, e3, p3_0⟩ := read_3 _ _ _ g3
  obtain ⟨rfl⟩ : c3 = .int .i64 f3_n := by simpa using e3
  obtain ⟨m4, y4, g4⟩ := hf 4 _ rfl
  (try dsimp only at g4)
  rw [show Try.prog.cellsOf 23 = 1 from by kernel_rfl] at g4
  obtain ⟨f4_A, f4_c, f4_l, e4, p4_0, p4_1, p4_2⟩ := read_23 _ _ _ g4
  obtain ⟨rfl⟩ : c4 = .slice f4_A f4_l.length f4_c := by simpa using e4
  exact ⟨f0_n, f1_n, f2_n, f3_n, f4_A, f4_c, f4_l, rfl, p0_0, p1_0, p2_0, p3_0, p4_0, p4_1, p4_2⟩
theorem read_49 {H : Type} {enc : TypeId × Value → H} {W : World} (fuel : Nat) (cs : List Value) (x : DataW H × List MemPlace) (h : DataW.trod enc Try.prog W 0 (fun _ => true) true fuel 49 cs = some x) : ∃ (A : Option Addr) (c : Nat) (l : (List OpD)), cs = [.slice A l.length c] ∧ l.length ≤ c ∧ Kd.C kOpD W A l.length l ∧ (l.length ≤ maxLen ∧ ∀ y0_ ∈ l, ((Lit.int .i64 y0_.kind).wf = true ∧ (Lit.int .i64 y0_.s).wf = true ∧ (Lit.int .i64 y0_.n).wf = true ∧ (Lit.int .i64 y0_.v).wf = true ∧ (y0_.keep.length ≤ maxLen ∧ ∀ y1_ ∈ y0_.keep, (Lit.int .i64 y1_).wf = true))) := Read.slice kOpD (fun y_ => ((Lit.int .i64 y_.kind).wf = true ∧ (Lit.int .i64 y_.s).wf = true ∧ (Lit.int .i64 y_.n).wf = true ∧ (Lit.int .i64 y_.v).wf = true ∧ (y_.keep.length ≤ maxLen ∧ ∀ y0_ ∈ y_.keep, (Lit.int .i64 y0_).wf = true))) Try.underlying49 (by kernel_rfl) (fun fuel cs x h => by obtain ⟨f0_n, f1_n, f2_n, f3_n, f4_A, f4_c, f4_l, rfl, q0, q1, q2, q3, q4, q5, q6⟩ := read_54 fuel cs x h; exact ⟨(⟨f0_n, f1_n, f2_n, f3_n, f4_l⟩ : OpD), ⟨[.int .i64 f0_n], _, rfl, rfl, ⟨[.int .i64 f1_n], _, rfl, rfl, ⟨[.int .i64 f2_n], _, rfl, rfl, ⟨[.int .i64 f3_n], _, rfl, rfl, ⟨f4_A, f4_c, rfl, q4, q5⟩⟩⟩⟩⟩, ⟨q0, q1, q2, q3, q6⟩⟩) h
set_option maxRecDepth 100000 in
theorem lifted (os : Os) (started : os.Started) (H : Type) (enc : TypeId × Value → H) :
    ReturnsInHanded {} Try.checked os 8 .any (Rows.drivePlaysSpec.pre6 enc Try.prog Try.f8 Rows.drivePlaysRow.domain false) (Rows.drivePlaysSpec.post enc Try.prog Try.f8 false true false false) := by
  refine returnsInHanded_of_change_sized (C := Try.checked) own started (by kernel_rfl) Try.func8
    (ChangeSpec.witness6 (enc := enc) (C := Try.checked) false ⟨#[], #[.int .i64 0, .slice none 0 0], []⟩ 8 (by kernel_rfl) (by kernel_rfl) (by kernel_rfl) (by kernel_rfl)) ?_
  intro W base args ds gs before hval0 hW hcnd hsz0 _
  have hsz : (DataW.weightsEach Try.prog (Try.f8.params.toList ++ Rows.drivePlaysSpec.plain.varTypes Try.prog) (ds ++ gs)).all (· ≤ reachBytes) = true := hsz0
  have hval : ∀ (j : Nat) t v, Try.f8.params[j]? = some t → args[j]? = some v → Value.okWide Try.prog W .any base t v := hval0
  have hW' := hW
  obtain ⟨p, q, hA0, hV, rfl, hfz, hnd⟩ := hW
  have hA : DataW.TrodAll enc Try.prog W 0 (fun _ => true) true Try.f8.params.toList args.toList ds p := hA0
  rw [Try.params8] at hA hval hsz
  obtain ⟨v0, vs0, d0, ds0, p0, q0, hargs, rfl, rfl, h0, r0⟩ := trodAll_cons hA
  obtain ⟨v1, vs1, d1, ds1, p1, q1, rfl, rfl, rfl, h1, r1⟩ := trodAll_cons r0
  obtain ⟨rfl, rfl, rfl⟩ := trodAll_nil r1
  obtain rfl : args = #[v0, v1] := by cases args; simp_all
  obtain ⟨rfl, rfl⟩ := trodVars_none hV
  have k0 := h0
  have lt0 : ∀ x ∈ p0, x.block < W.heap.size := by obtain ⟨m, hm⟩ := k0; exact DataW.trod_lt m _ _ _ hm
  obtain ⟨a0, rfl⟩ := okWide_int Try.underlying3 (hval 0 3 v0 rfl rfl)
  obtain ⟨z0n, he0, x0_0⟩ : ∃ (z0n : Int), (.int .i64 a0 : Value).cells.toList = [.int .i64 z0n] ∧ (Lit.int .i64 z0n).wf = true := by obtain ⟨fuel, hf⟩ := h0; exact read_3 fuel _ _ hf
  obtain rfl := (show a0 = z0n from by simpa [Value.cells] using he0).symm
  have k1 := h1
  have lt1 : ∀ x ∈ p1, x.block < W.heap.size := by obtain ⟨m, hm⟩ := k1; exact DataW.trod_lt m _ _ _ hm
  obtain ⟨a1, len1, cap1, rfl⟩ := okWide_slice Try.underlying49 (hval 1 49 v1 rfl rfl)
  obtain ⟨z1A, z1c, z1l, he1, x1_0, x1_1, x1_2⟩ : ∃ (z1A : Option Addr) (z1c : Nat) (z1l : (List OpD)), (.slice a1 len1 cap1 : Value).cells.toList = [.slice z1A z1l.length z1c] ∧ z1l.length ≤ z1c ∧ Kd.C kOpD W z1A z1l.length z1l ∧ (z1l.length ≤ maxLen ∧ ∀ y0_ ∈ z1l, ((Lit.int .i64 y0_.kind).wf = true ∧ (Lit.int .i64 y0_.s).wf = true ∧ (Lit.int .i64 y0_.n).wf = true ∧ (Lit.int .i64 y0_.v).wf = true ∧ (y0_.keep.length ≤ maxLen ∧ ∀ y1_ ∈ y0_.keep, (Lit.int .i64 y1_).wf = true))) := by obtain ⟨fuel, hf⟩ := h1; exact read_49 fuel _ _ hf
  obtain ⟨ea1, el1, ec1⟩ : a1 = z1A ∧ len1 = z1l.length ∧ cap1 = z1c := by simpa [Value.cells] using he1
  obtain rfl := ea1.symm
  obtain rfl := el1
  obtain rfl := ec1.symm
  clear hA0 hval0 hsz0 hsz
  refine (DrivePlays_law z0n z1A z1c z1l W ⟨x0_0⟩ ⟨⟨x1_0, x1_1, x1_2⟩⟩).mono fun e W' ⟨he, bel⟩ => ?_
  subst he
  exact ⟨_, rfl, _, _, _, [], _, [], hW', trodAll_mk1 (shut_bool Try.underlying4 _), (trodAll_cons_mk (Below.trod laidOut (by kernel_rfl) (of_decide_eq_true (by kernel_rfl)) k0 bel lt0) (trodAll_cons_mk (Below.trod laidOut (by kernel_rfl) (of_decide_eq_true (by kernel_rfl)) k1 bel lt1) trodAll_mk0)), rfl, bel.frame _, fun h => by cases h⟩
theorem over : Rows.drivePlaysRow.holds Try.pinned (OpenSpec.ofChange Rows.drivePlaysSpec) :=
  OpenClaim.holds_of_wide 8 Try.f8 rfl rfl rfl rfl rfl rfl rfl ⟨rfl, rfl, rfl, rfl, rfl⟩ rfl rfl rfl rfl rfl (by kernel_rfl) Try.func8 (by kernel_rfl)
    (of_decide_eq_true (by kernel_rfl)) (by unfold Func.isWrapper; first | (rw [if_pos (by decide +kernel)]; kernel_rfl) | (rw [if_neg (by decide +kernel)]; exact ⟨rfl, rfl⟩))
    (fun os started H enc _ => lifted os started H enc)
end Go.Proofs.Ytoloibjdiojmlaa.drivePlays
namespace Go.Proofs.Ytoloibjdiojmlaa
/-- The row, under a short name, for the claim. -/
theorem drivePlays_holds : Rows.DrivePlaysSaid := drivePlays.over
#print axioms drivePlays_holds
end Go.Proofs.Ytoloibjdiojmlaa
