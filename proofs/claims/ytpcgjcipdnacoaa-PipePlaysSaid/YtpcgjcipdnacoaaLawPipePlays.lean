/- The law PipePlays: for every input its Go function answers true, and each argument reads afterwards as it read before. No condition. -/
import Derived.Test.YtpcgjcipdnacoaaRows
import Derived.Test.YtpcgjcipdnacoaaPlays
import Derived.WalkKit
import Derived.ProofKit
import Derived.OpenShut
import Derived.ShutString
import Derived.ChangeOld
import Derived.Below
import Derived.SizedLaws
import Derived.Test.YtpcgjcipdnacoaaWSized
import Derived.Test.YtpcgjcipdnacoaaRead
namespace Go.Proofs.Ytpcgjcipdnacoaa.pipePlays
open Go.ChangeShapes Go.WideShapes Go.ChangeAt Go.RowKit
open Go.Proofs.YtpcgjcipdnacoaaW.PrintWords Go.Proofs.YtpcgjcipdnacoaaW.PrintLast Go.Proofs.Ytpcgjcipdnacoaa Go.Proofs.Ytpcgjcipdnacoaa.P
open Go.ChangeMaps (open_string shut_string)
set_option linter.unusedVariables false
set_option linter.unusedSimpArgs false
theorem own : ownKnob Try.prog.godebug = none := by kernel_rfl
theorem laidOut : laidOutB Try.prog = true := by kernel_rfl
theorem read_4 {H : Type} {enc : TypeId × Value → H} {W : World} (fuel : Nat) (cs : List Value) (x : DataW H × List MemPlace) (h : DataW.trod enc Try.prog W 0 (fun _ => true) true fuel 4 cs = some x) : ∃ (n : Bool), cs = [.bool n] ∧ True := Read.bool Try.underlying4 h
theorem read_3 {H : Type} {enc : TypeId × Value → H} {W : World} (fuel : Nat) (cs : List Value) (x : DataW H × List MemPlace) (h : DataW.trod enc Try.prog W 0 (fun _ => true) true fuel 3 cs = some x) : ∃ (n : Int), cs = [.int .i64 n] ∧ (Lit.int .i64 n).wf = true := Read.int Try.underlying3 h
theorem read_5 {H : Type} {enc : TypeId × Value → H} {W : World} (fuel : Nat) (cs : List Value) (x : DataW H × List MemPlace) (h : DataW.trod enc Try.prog W 0 (fun _ => true) true fuel 5 cs = some x) : ∃ (n : Int), cs = [.int .u8 n] ∧ (Lit.int .u8 n).wf = true := Read.int Try.underlying5 h
theorem read_22 {H : Type} {enc : TypeId × Value → H} {W : World} (fuel : Nat) (cs : List Value) (x : DataW H × List MemPlace) (h : DataW.trod enc Try.prog W 0 (fun _ => true) true fuel 22 cs = some x) : ∃ (A : Option Addr) (c : Nat) (l : (List Int)), cs = [.slice A l.length c] ∧ l.length ≤ c ∧ Kd.C (Kd.int .u8) W A l.length l ∧ (l.length ≤ maxLen ∧ ∀ y0_ ∈ l, (Lit.int .u8 y0_).wf = true) := Read.slice (Kd.int .u8) (fun y_ => (Lit.int .u8 y_).wf = true) Try.underlying22 (by kernel_rfl) (fun fuel cs x h => by obtain ⟨n, rfl, q0⟩ := read_5 fuel cs x h; exact ⟨n, rfl, q0⟩) h
theorem read_36 {H : Type} {enc : TypeId × Value → H} {W : World} (fuel : Nat) (cs : List Value) (x : DataW H × List MemPlace) (h : DataW.trod enc Try.prog W 0 (fun _ => true) true fuel 36 cs = some x) : ∃ (f0_n : Bool) (f1_n : Bool) (f2_n : Int) (f3_A : Option Addr) (f3_c : Nat) (f3_l : (List Int)), cs = [.bool f0_n, .bool f1_n, .int .i64 f2_n, .slice f3_A f3_l.length f3_c] ∧ True ∧ True ∧ (Lit.int .i64 f2_n).wf = true ∧ f3_l.length ≤ f3_c ∧ Kd.C (Kd.int .u8) W f3_A f3_l.length f3_l ∧ (f3_l.length ≤ maxLen ∧ ∀ y0_ ∈ f3_l, (Lit.int .u8 y0_).wf = true) := by
  obtain ⟨hl, hf⟩ := Read.struct Try.underlying36 h
  rw [show Try.prog.cellsOf 36 = 4 from by kernel_rfl] at hl
  obtain ⟨c0, c1, c2, c3, rfl⟩ : ∃ c0 c1 c2 c3 : Value, cs = [c0, c1, c2, c3] := by
    match cs, hl with
    | [c0, c1, c2, c3], _ => exact ⟨c0, c1, c2, c3, rfl⟩
  obtain ⟨m0, y0, g0⟩ := hf 0 _ rfl
  (try dsimp only at g0)
  rw [show Try.prog.cellsOf 4 = 1 from by kernel_rfl] at g0
  obtain ⟨f0_n, e0, p0_0⟩ := read_4 _ _ _ g0
  obtain ⟨rfl⟩ : c0 = .bool f0_n := by simpa using e0
  obtain ⟨m1, y1, g1⟩ := hf 1 _ rfl
  (try dsimp only at g1)
  rw [show Try.prog.cellsOf 4 = 1 from by kernel_rfl] at g1
  obtain ⟨f1_n, e1, p1_0⟩ := read_4 _ _ _ g1
  obtain ⟨rfl⟩ : c1 = .bool f1_n := by simpa using e1
  obtain ⟨m2, y2, g2⟩ := hf 2 _ rfl
  (try dsimp only at g2)
  rw [show Try.prog.cellsOf 3 = 1 from by kernel_rfl] at g2
  obtain ⟨f2_n, e2, p2_0⟩ := read_3 _ _ _ g2
  obtain ⟨rfl⟩ : c2 = .int .i64 f2_n := by simpa using e2
  obtain ⟨m3, y3, g3⟩ := hf 3 _ rfl
  (try dsimp only at g3)
  rw [show Try.prog.cellsOf 22 = 1 from by kernel_rfl] at g3
  obtain ⟨f3_A, f3_c, f3_l, e3, p3_0, p3_1, p3_2⟩ := read_22 _ _ _ g3
  obtain ⟨rfl⟩ : c3 = .slice f3_A f3_l.length f3_c := by simpa using e3
  exact ⟨f0_n, f1_n, f2_n, f3_A, f3_c, f3_l, rfl, p0_0, p1_0, p2_0, p3_0, p3_1, p3_2⟩
theorem read_31 {H : Type} {enc : TypeId × Value → H} {W : World} (fuel : Nat) (cs : List Value) (x : DataW H × List MemPlace) (h : DataW.trod enc Try.prog W 0 (fun _ => true) true fuel 31 cs = some x) : ∃ (A : Option Addr) (c : Nat) (l : (List OpV)), cs = [.slice A l.length c] ∧ l.length ≤ c ∧ Kd.C kOp W A l.length l ∧ (l.length ≤ maxLen ∧ ∀ y0_ ∈ l, (True ∧ True ∧ (Lit.int .i64 y0_.n).wf = true ∧ (y0_.b.length ≤ maxLen ∧ ∀ y1_ ∈ y0_.b, (Lit.int .u8 y1_).wf = true))) := Read.slice kOp (fun y_ => (True ∧ True ∧ (Lit.int .i64 y_.n).wf = true ∧ (y_.b.length ≤ maxLen ∧ ∀ y0_ ∈ y_.b, (Lit.int .u8 y0_).wf = true))) Try.underlying31 (by kernel_rfl) (fun fuel cs x h => by obtain ⟨f0_n, f1_n, f2_n, f3_A, f3_c, f3_l, rfl, q0, q1, q2, q3, q4, q5⟩ := read_36 fuel cs x h; exact ⟨(⟨f0_n, f1_n, f2_n, f3_l⟩ : OpV), ⟨[.bool f0_n], _, rfl, rfl, ⟨[.bool f1_n], _, rfl, rfl, ⟨[.int .i64 f2_n], _, rfl, rfl, ⟨f3_A, f3_c, rfl, q3, q4⟩⟩⟩⟩, ⟨q0, q1, q2, q5⟩⟩) h
set_option maxRecDepth 100000 in
theorem lifted (os : Os) (started : os.Started) (H : Type) (enc : TypeId × Value → H) :
    ReturnsInHanded {} Try.checked os 5 .any (Rows.pipePlaysSpec.pre6 enc Try.prog Try.f5 Rows.pipePlaysRow.domain false) (Rows.pipePlaysSpec.post enc Try.prog Try.f5 false true false false) := by
  refine returnsInHanded_of_change_sized (C := Try.checked) own started (by kernel_rfl) Try.func5
    (ChangeSpec.witness6 (enc := enc) (C := Try.checked) false ⟨#[], #[.slice none 0 0], []⟩ 8 (by kernel_rfl) (by kernel_rfl) (by kernel_rfl) (by kernel_rfl)) ?_
  intro W base args ds gs before hval0 hW hcnd hsz0 _
  have hsz : (DataW.weightsEach Try.prog (Try.f5.params.toList ++ Rows.pipePlaysSpec.plain.varTypes Try.prog) (ds ++ gs)).all (· ≤ reachBytes) = true := hsz0
  have hval : ∀ (j : Nat) t v, Try.f5.params[j]? = some t → args[j]? = some v → Value.okWide Try.prog W .any base t v := hval0
  have hW' := hW
  obtain ⟨p, q, hA0, hV, rfl, hfz, hnd⟩ := hW
  have hA : DataW.TrodAll enc Try.prog W 0 (fun _ => true) true Try.f5.params.toList args.toList ds p := hA0
  rw [Try.params5] at hA hval hsz
  obtain ⟨v0, vs0, d0, ds0, p0, q0, hargs, rfl, rfl, h0, r0⟩ := trodAll_cons hA
  obtain ⟨rfl, rfl, rfl⟩ := trodAll_nil r0
  obtain rfl : args = #[v0] := by cases args; simp_all
  obtain ⟨rfl, rfl⟩ := trodVars_none hV
  have k0 := h0
  have lt0 : ∀ x ∈ p0, x.block < W.heap.size := by obtain ⟨m, hm⟩ := k0; exact DataW.trod_lt m _ _ _ hm
  obtain ⟨a0, len0, cap0, rfl⟩ := okWide_slice Try.underlying31 (hval 0 31 v0 rfl rfl)
  obtain ⟨z0A, z0c, z0l, he0, x0_0, x0_1, x0_2⟩ : ∃ (z0A : Option Addr) (z0c : Nat) (z0l : (List OpV)), (.slice a0 len0 cap0 : Value).cells.toList = [.slice z0A z0l.length z0c] ∧ z0l.length ≤ z0c ∧ Kd.C kOp W z0A z0l.length z0l ∧ (z0l.length ≤ maxLen ∧ ∀ y0_ ∈ z0l, (True ∧ True ∧ (Lit.int .i64 y0_.n).wf = true ∧ (y0_.b.length ≤ maxLen ∧ ∀ y1_ ∈ y0_.b, (Lit.int .u8 y1_).wf = true))) := by obtain ⟨fuel, hf⟩ := h0; exact read_31 fuel _ _ hf
  obtain ⟨ea0, el0, ec0⟩ : a0 = z0A ∧ len0 = z0l.length ∧ cap0 = z0c := by simpa [Value.cells] using he0
  obtain rfl := ea0.symm
  obtain rfl := el0
  obtain rfl := ec0.symm
  clear hA0 hval0 hsz0 hsz
  refine (PipePlays_law z0A z0c z0l W ⟨⟨x0_0, x0_1, x0_2⟩⟩).mono fun e W' ⟨he, bel⟩ => ?_
  subst he
  exact ⟨_, rfl, _, _, _, [], _, [], hW', trodAll_mk1 (shut_bool Try.underlying4 _), (trodAll_cons_mk (Below.trod laidOut (by kernel_rfl) (of_decide_eq_true (by kernel_rfl)) k0 bel lt0) trodAll_mk0), rfl, bel.frame _, fun h => by cases h⟩
theorem over : Rows.pipePlaysRow.holds Try.pinned (OpenSpec.ofChange Rows.pipePlaysSpec) :=
  OpenClaim.holds_of_wide 5 Try.f5 rfl rfl rfl rfl rfl rfl rfl ⟨rfl, rfl, rfl, rfl, rfl⟩ rfl rfl rfl rfl rfl (by kernel_rfl) Try.func5 (by kernel_rfl)
    (of_decide_eq_true (by kernel_rfl)) (by unfold Func.isWrapper; first | (rw [if_pos (by decide +kernel)]; kernel_rfl) | (rw [if_neg (by decide +kernel)]; exact ⟨rfl, rfl⟩))
    (fun os started H enc _ => lifted os started H enc)
end Go.Proofs.Ytpcgjcipdnacoaa.pipePlays
namespace Go.Proofs.Ytpcgjcipdnacoaa
/-- The row, under a short name, for the claim. -/
theorem pipePlays_holds : Rows.PipePlaysSaid := pipePlays.over
#print axioms pipePlays_holds
end Go.Proofs.Ytpcgjcipdnacoaa
