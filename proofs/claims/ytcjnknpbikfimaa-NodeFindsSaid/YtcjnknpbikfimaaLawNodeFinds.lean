/- The law NodeFinds: for every input its Go function answers true, and each argument reads afterwards as it read before. No condition. -/
import Derived.Test.YtcjnknpbikfimaaRows
import Derived.Test.YtcjnknpbikfimaaFindsW
import Derived.WalkKit
import Derived.ProofKit
import Derived.OpenShut
import Derived.ShutString
import Derived.ChangeOld
import Derived.Below
import Derived.SizedLaws
import Derived.Test.YtcjnknpbikfimaaWSized
import Derived.Test.YtcjnknpbikfimaaRead
namespace Go.Proofs.Ytcjnknpbikfimaa.nodeFinds
open Go.ChangeShapes Go.WideShapes Go.ChangeAt Go.RowKit
open Go.Proofs.YtcjnknpbikfimaaW.PrintWords Go.Proofs.YtcjnknpbikfimaaW.PrintLast Go.Proofs.Ytcjnknpbikfimaa Go.Proofs.Ytcjnknpbikfimaa.P
open Go.ChangeMaps (open_string shut_string)
set_option linter.unusedVariables false
set_option linter.unusedSimpArgs false
theorem own : ownKnob Try.prog.godebug = none := by kernel_rfl
theorem laidOut : laidOutB Try.prog = true := by kernel_rfl
theorem read_3 {H : Type} {enc : TypeId × Value → H} {W : World} (fuel : Nat) (cs : List Value) (x : DataW H × List MemPlace) (h : DataW.trod enc Try.prog W 0 (fun _ => true) true fuel 3 cs = some x) : ∃ (n : Int), cs = [.int .i64 n] ∧ (Lit.int .i64 n).wf = true := Read.int Try.underlying3 h
set_option maxRecDepth 100000 in
theorem read_35 {H : Type} {enc : TypeId × Value → H} {W : World} (fuel : Nat) (cs : List Value) (x : DataW H × List MemPlace) (h : DataW.trod enc Try.prog W 0 (fun _ => true) true fuel 35 cs = some x) : ∃ (f0_n : Int) (f1_n : Int) (f2_n : Int), cs = [.int .i64 f0_n, .int .i64 f1_n, .int .i64 f2_n] ∧ (Lit.int .i64 f0_n).wf = true ∧ (Lit.int .i64 f1_n).wf = true ∧ (Lit.int .i64 f2_n).wf = true := by
  obtain ⟨hl, hf⟩ := Read.struct Try.underlying35 h
  rw [show Try.prog.cellsOf 35 = 3 from by kernel_rfl] at hl
  obtain ⟨c0, c1, c2, rfl⟩ : ∃ c0 c1 c2 : Value, cs = [c0, c1, c2] := by
    match cs, hl with
    | [c0, c1, c2], _ => exact ⟨c0, c1, c2, rfl⟩
  obtain ⟨m0, y0, g0⟩ := hf 0 _ rfl
  (try dsimp only at g0)
  rw [show Try.prog.cellsOf 3 = 1 from by kernel_rfl] at g0
  obtain ⟨f0_n, e0, p0_0⟩ := read_3 _ _ _ g0
  obtain ⟨rfl⟩ : c0 = .int .i64 f0_n := by simpa using e0
  obtain ⟨m1, y1, g1⟩ := hf 1 _ rfl
  (try dsimp only at g1)
  rw [show Try.prog.cellsOf 3 = 1 from by kernel_rfl] at g1
  obtain ⟨f1_n, e1, p1_0⟩ := read_3 _ _ _ g1
  obtain ⟨rfl⟩ : c1 = .int .i64 f1_n := by simpa using e1
  obtain ⟨m2, y2, g2⟩ := hf 2 _ rfl
  (try dsimp only at g2)
  rw [show Try.prog.cellsOf 3 = 1 from by kernel_rfl] at g2
  obtain ⟨f2_n, e2, p2_0⟩ := read_3 _ _ _ g2
  obtain ⟨rfl⟩ : c2 = .int .i64 f2_n := by simpa using e2
  exact ⟨f0_n, f1_n, f2_n, rfl, p0_0, p1_0, p2_0⟩
theorem read_5 {H : Type} {enc : TypeId × Value → H} {W : World} (fuel : Nat) (cs : List Value) (x : DataW H × List MemPlace) (h : DataW.trod enc Try.prog W 0 (fun _ => true) true fuel 5 cs = some x) : ∃ (n : Int), cs = [.int .u8 n] ∧ (Lit.int .u8 n).wf = true := Read.int Try.underlying5 h
theorem read_29 {H : Type} {enc : TypeId × Value → H} {W : World} (fuel : Nat) (cs : List Value) (x : DataW H × List MemPlace) (h : DataW.trod enc Try.prog W 0 (fun _ => true) true fuel 29 cs = some x) : ∃ (A : Option Addr) (c : Nat) (l : (List Int)), cs = [.slice A l.length c] ∧ l.length ≤ c ∧ Kd.C (Kd.int .u8) W A l.length l ∧ (l.length ≤ maxLen ∧ ∀ y0_ ∈ l, (Lit.int .u8 y0_).wf = true) := Read.slice (Kd.int .u8) (fun y_ => (Lit.int .u8 y_).wf = true) Try.underlying29 (by kernel_rfl) (fun fuel cs x h => by obtain ⟨n, rfl, q0⟩ := read_5 fuel cs x h; exact ⟨n, rfl, q0⟩) h
set_option maxRecDepth 100000 in
theorem read_52 {H : Type} {enc : TypeId × Value → H} {W : World} (fuel : Nat) (cs : List Value) (x : DataW H × List MemPlace) (h : DataW.trod enc Try.prog W 0 (fun _ => true) true fuel 52 cs = some x) : ∃ (f0_f0_n : Int) (f0_f1_n : Int) (f0_f2_n : Int) (f1_A : Option Addr) (f1_c : Nat) (f1_l : (List Int)), cs = [.int .i64 f0_f0_n, .int .i64 f0_f1_n, .int .i64 f0_f2_n, .slice f1_A f1_l.length f1_c] ∧ (Lit.int .i64 f0_f0_n).wf = true ∧ (Lit.int .i64 f0_f1_n).wf = true ∧ (Lit.int .i64 f0_f2_n).wf = true ∧ f1_l.length ≤ f1_c ∧ Kd.C (Kd.int .u8) W f1_A f1_l.length f1_l ∧ (f1_l.length ≤ maxLen ∧ ∀ y0_ ∈ f1_l, (Lit.int .u8 y0_).wf = true) := by
  obtain ⟨hl, hf⟩ := Read.struct Try.underlying52 h
  rw [show Try.prog.cellsOf 52 = 4 from by kernel_rfl] at hl
  obtain ⟨c0, c1, c2, c3, rfl⟩ : ∃ c0 c1 c2 c3 : Value, cs = [c0, c1, c2, c3] := by
    match cs, hl with
    | [c0, c1, c2, c3], _ => exact ⟨c0, c1, c2, c3, rfl⟩
  obtain ⟨m0, y0, g0⟩ := hf 0 _ rfl
  (try dsimp only at g0)
  rw [show Try.prog.cellsOf 35 = 3 from by kernel_rfl] at g0
  obtain ⟨f0_f0_n, f0_f1_n, f0_f2_n, e0, p0_0, p0_1, p0_2⟩ := read_35 _ _ _ g0
  obtain ⟨rfl, rfl, rfl⟩ : c0 = .int .i64 f0_f0_n ∧ c1 = .int .i64 f0_f1_n ∧ c2 = .int .i64 f0_f2_n := by simpa using e0
  obtain ⟨m1, y1, g1⟩ := hf 1 _ rfl
  (try dsimp only at g1)
  rw [show Try.prog.cellsOf 29 = 1 from by kernel_rfl] at g1
  obtain ⟨f1_A, f1_c, f1_l, e1, p1_0, p1_1, p1_2⟩ := read_29 _ _ _ g1
  obtain ⟨rfl⟩ : c3 = .slice f1_A f1_l.length f1_c := by simpa using e1
  exact ⟨f0_f0_n, f0_f1_n, f0_f2_n, f1_A, f1_c, f1_l, rfl, p0_0, p0_1, p0_2, p1_0, p1_1, p1_2⟩
theorem read_22 {H : Type} {enc : TypeId × Value → H} {W : World} (fuel : Nat) (cs : List Value) (x : DataW H × List MemPlace) (h : DataW.trod enc Try.prog W 0 (fun _ => true) true fuel 22 cs = some x) : ∃ (A : Option Addr) (c : Nat) (l : (List S52)), cs = [.slice A l.length c] ∧ l.length ≤ c ∧ Kd.C k52 W A l.length l ∧ (l.length ≤ maxLen ∧ ∀ y0_ ∈ l, (((Lit.int .i64 y0_.f0.f0).wf = true ∧ (Lit.int .i64 y0_.f0.f1).wf = true ∧ (Lit.int .i64 y0_.f0.f2).wf = true) ∧ (y0_.f1.length ≤ maxLen ∧ ∀ y1_ ∈ y0_.f1, (Lit.int .u8 y1_).wf = true))) := Read.slice k52 (fun y_ => (((Lit.int .i64 y_.f0.f0).wf = true ∧ (Lit.int .i64 y_.f0.f1).wf = true ∧ (Lit.int .i64 y_.f0.f2).wf = true) ∧ (y_.f1.length ≤ maxLen ∧ ∀ y0_ ∈ y_.f1, (Lit.int .u8 y0_).wf = true))) Try.underlying22 (by kernel_rfl) (fun fuel cs x h => by obtain ⟨f0_f0_n, f0_f1_n, f0_f2_n, f1_A, f1_c, f1_l, rfl, q0, q1, q2, q3, q4, q5⟩ := read_52 fuel cs x h; exact ⟨(⟨(⟨f0_f0_n, f0_f1_n, f0_f2_n⟩ : S35), f1_l⟩ : S52), ⟨[.int .i64 f0_f0_n, .int .i64 f0_f1_n, .int .i64 f0_f2_n], _, rfl, ⟨[.int .i64 f0_f0_n], _, rfl, rfl, ⟨[.int .i64 f0_f1_n], _, rfl, rfl, rfl⟩⟩, ⟨f1_A, f1_c, rfl, q3, q4⟩⟩, ⟨⟨q0, q1, q2⟩, q5⟩⟩) h
set_option maxRecDepth 100000 in
theorem read_57 {H : Type} {enc : TypeId × Value → H} {W : World} (fuel : Nat) (cs : List Value) (x : DataW H × List MemPlace) (h : DataW.trod enc Try.prog W 0 (fun _ => true) true fuel 57 cs = some x) : ∃ (f0_f0_n : Int) (f0_f1_n : Int) (f0_f2_n : Int) (f1_n : Int), cs = [.int .i64 f0_f0_n, .int .i64 f0_f1_n, .int .i64 f0_f2_n, .int .i64 f1_n] ∧ (Lit.int .i64 f0_f0_n).wf = true ∧ (Lit.int .i64 f0_f1_n).wf = true ∧ (Lit.int .i64 f0_f2_n).wf = true ∧ (Lit.int .i64 f1_n).wf = true := by
  obtain ⟨hl, hf⟩ := Read.struct Try.underlying57 h
  rw [show Try.prog.cellsOf 57 = 4 from by kernel_rfl] at hl
  obtain ⟨c0, c1, c2, c3, rfl⟩ : ∃ c0 c1 c2 c3 : Value, cs = [c0, c1, c2, c3] := by
    match cs, hl with
    | [c0, c1, c2, c3], _ => exact ⟨c0, c1, c2, c3, rfl⟩
  obtain ⟨m0, y0, g0⟩ := hf 0 _ rfl
  (try dsimp only at g0)
  rw [show Try.prog.cellsOf 35 = 3 from by kernel_rfl] at g0
  obtain ⟨f0_f0_n, f0_f1_n, f0_f2_n, e0, p0_0, p0_1, p0_2⟩ := read_35 _ _ _ g0
  obtain ⟨rfl, rfl, rfl⟩ : c0 = .int .i64 f0_f0_n ∧ c1 = .int .i64 f0_f1_n ∧ c2 = .int .i64 f0_f2_n := by simpa using e0
  obtain ⟨m1, y1, g1⟩ := hf 1 _ rfl
  (try dsimp only at g1)
  rw [show Try.prog.cellsOf 3 = 1 from by kernel_rfl] at g1
  obtain ⟨f1_n, e1, p1_0⟩ := read_3 _ _ _ g1
  obtain ⟨rfl⟩ : c3 = .int .i64 f1_n := by simpa using e1
  exact ⟨f0_f0_n, f0_f1_n, f0_f2_n, f1_n, rfl, p0_0, p0_1, p0_2, p1_0⟩
theorem read_23 {H : Type} {enc : TypeId × Value → H} {W : World} (fuel : Nat) (cs : List Value) (x : DataW H × List MemPlace) (h : DataW.trod enc Try.prog W 0 (fun _ => true) true fuel 23 cs = some x) : ∃ (A : Option Addr) (c : Nat) (l : (List S57)), cs = [.slice A l.length c] ∧ l.length ≤ c ∧ Kd.C k57 W A l.length l ∧ (l.length ≤ maxLen ∧ ∀ y0_ ∈ l, (((Lit.int .i64 y0_.f0.f0).wf = true ∧ (Lit.int .i64 y0_.f0.f1).wf = true ∧ (Lit.int .i64 y0_.f0.f2).wf = true) ∧ (Lit.int .i64 y0_.f1).wf = true)) := Read.slice k57 (fun y_ => (((Lit.int .i64 y_.f0.f0).wf = true ∧ (Lit.int .i64 y_.f0.f1).wf = true ∧ (Lit.int .i64 y_.f0.f2).wf = true) ∧ (Lit.int .i64 y_.f1).wf = true)) Try.underlying23 (by kernel_rfl) (fun fuel cs x h => by obtain ⟨f0_f0_n, f0_f1_n, f0_f2_n, f1_n, rfl, q0, q1, q2, q3⟩ := read_57 fuel cs x h; exact ⟨(⟨(⟨f0_f0_n, f0_f1_n, f0_f2_n⟩ : S35), f1_n⟩ : S57), ⟨[.int .i64 f0_f0_n, .int .i64 f0_f1_n, .int .i64 f0_f2_n], _, rfl, ⟨[.int .i64 f0_f0_n], _, rfl, rfl, ⟨[.int .i64 f0_f1_n], _, rfl, rfl, rfl⟩⟩, rfl⟩, ⟨⟨q0, q1, q2⟩, q3⟩⟩) h
set_option maxRecDepth 100000 in
theorem read_25 {H : Type} {enc : TypeId × Value → H} {W : World} (fuel : Nat) (cs : List Value) (x : DataW H × List MemPlace) (h : DataW.trod enc Try.prog W 0 (fun _ => true) true fuel 25 cs = some x) : ∃ (f0_n : Int) (f1_A : Option Addr) (f1_c : Nat) (f1_l : (List S52)) (f2_A : Option Addr) (f2_c : Nat) (f2_l : (List S57)), cs = [.int .i64 f0_n, .slice f1_A f1_l.length f1_c, .slice f2_A f2_l.length f2_c] ∧ (Lit.int .i64 f0_n).wf = true ∧ f1_l.length ≤ f1_c ∧ Kd.C k52 W f1_A f1_l.length f1_l ∧ (f1_l.length ≤ maxLen ∧ ∀ y0_ ∈ f1_l, (((Lit.int .i64 y0_.f0.f0).wf = true ∧ (Lit.int .i64 y0_.f0.f1).wf = true ∧ (Lit.int .i64 y0_.f0.f2).wf = true) ∧ (y0_.f1.length ≤ maxLen ∧ ∀ y1_ ∈ y0_.f1, (Lit.int .u8 y1_).wf = true))) ∧ f2_l.length ≤ f2_c ∧ Kd.C k57 W f2_A f2_l.length f2_l ∧ (f2_l.length ≤ maxLen ∧ ∀ y0_ ∈ f2_l, (((Lit.int .i64 y0_.f0.f0).wf = true ∧ (Lit.int .i64 y0_.f0.f1).wf = true ∧ (Lit.int .i64 y0_.f0.f2).wf = true) ∧ (Lit.int .i64 y0_.f1).wf = true)) := by
  obtain ⟨hl, hf⟩ := Read.struct Try.underlying25 h
  rw [show Try.prog.cellsOf 25 = 3 from by kernel_rfl] at hl
  obtain ⟨c0, c1, c2, rfl⟩ : ∃ c0 c1 c2 : Value, cs = [c0, c1, c2] := by
    match cs, hl with
    | [c0, c1, c2], _ => exact ⟨c0, c1, c2, rfl⟩
  obtain ⟨m0, y0, g0⟩ := hf 0 _ rfl
  (try dsimp only at g0)
  rw [show Try.prog.cellsOf 3 = 1 from by kernel_rfl] at g0
  obtain ⟨f0_n, e0, p0_0⟩ := read_3 _ _ _ g0
  obtain ⟨rfl⟩ : c0 = .int .i64 f0_n := by simpa using e0
  obtain ⟨m1, y1, g1⟩ := hf 1 _ rfl
  (try dsimp only at g1)
  rw [show Try.prog.cellsOf 22 = 1 from by kernel_rfl] at g1
  obtain ⟨f1_A, f1_c, f1_l, e1, p1_0, p1_1, p1_2⟩ := read_22 _ _ _ g1
  obtain ⟨rfl⟩ : c1 = .slice f1_A f1_l.length f1_c := by simpa using e1
  obtain ⟨m2, y2, g2⟩ := hf 2 _ rfl
  (try dsimp only at g2)
  rw [show Try.prog.cellsOf 23 = 1 from by kernel_rfl] at g2
  obtain ⟨f2_A, f2_c, f2_l, e2, p2_0, p2_1, p2_2⟩ := read_23 _ _ _ g2
  obtain ⟨rfl⟩ : c2 = .slice f2_A f2_l.length f2_c := by simpa using e2
  exact ⟨f0_n, f1_A, f1_c, f1_l, f2_A, f2_c, f2_l, rfl, p0_0, p1_0, p1_1, p1_2, p2_0, p2_1, p2_2⟩
set_option maxRecDepth 100000 in
theorem lifted (os : Os) (started : os.Started) (H : Type) (enc : TypeId × Value → H) :
    ReturnsInHanded {} Try.checked os 5 .any (Rows.nodeFindsSpec.pre6 enc Try.prog Try.f5 Rows.nodeFindsRow.domain false) (Rows.nodeFindsSpec.post enc Try.prog Try.f5 false true false false) := by
  refine returnsInHanded_of_change_sized (C := Try.checked) own started (by kernel_rfl) Try.func5
    (ChangeSpec.witness6 (enc := enc) (C := Try.checked) false ⟨#[], #[.agg #[.int .i64 0, .slice none 0 0, .slice none 0 0], .agg #[.int .i64 0, .int .i64 0, .int .i64 0]], []⟩ 8 (by kernel_rfl) (by kernel_rfl) (by kernel_rfl) (by kernel_rfl)) ?_
  intro W base args ds gs before hval0 hW hcnd hsz0 _
  have hsz : (DataW.weightsEach Try.prog (Try.f5.params.toList ++ Rows.nodeFindsSpec.plain.varTypes Try.prog) (ds ++ gs)).all (· ≤ reachBytes) = true := hsz0
  have hval : ∀ (j : Nat) t v, Try.f5.params[j]? = some t → args[j]? = some v → Value.okWide Try.prog W .any base t v := hval0
  have hW' := hW
  obtain ⟨p, q, hA0, hV, rfl, hfz, hnd⟩ := hW
  have hA : DataW.TrodAll enc Try.prog W 0 (fun _ => true) true Try.f5.params.toList args.toList ds p := hA0
  rw [Try.params5] at hA hval hsz
  obtain ⟨v0, vs0, d0, ds0, p0, q0, hargs, rfl, rfl, h0, r0⟩ := trodAll_cons hA
  obtain ⟨v1, vs1, d1, ds1, p1, q1, rfl, rfl, rfl, h1, r1⟩ := trodAll_cons r0
  obtain ⟨rfl, rfl, rfl⟩ := trodAll_nil r1
  obtain rfl : args = #[v0, v1] := by cases args; simp_all
  obtain ⟨rfl, rfl⟩ := trodVars_none hV
  have k0 := h0
  have lt0 : ∀ x ∈ p0, x.block < W.heap.size := by obtain ⟨m, hm⟩ := k0; exact DataW.trod_lt m _ _ _ hm
  obtain ⟨cs0, rfl⟩ := Read.okWide_struct Try.underlying25 (hval 0 25 v0 rfl rfl)
  obtain ⟨z0f0_n, z0f1_A, z0f1_c, z0f1_l, z0f2_A, z0f2_c, z0f2_l, he0, x0_0, x0_1, x0_2, x0_3, x0_4, x0_5, x0_6⟩ : ∃ (z0f0_n : Int) (z0f1_A : Option Addr) (z0f1_c : Nat) (z0f1_l : (List S52)) (z0f2_A : Option Addr) (z0f2_c : Nat) (z0f2_l : (List S57)), (.agg cs0 : Value).cells.toList = [.int .i64 z0f0_n, .slice z0f1_A z0f1_l.length z0f1_c, .slice z0f2_A z0f2_l.length z0f2_c] ∧ (Lit.int .i64 z0f0_n).wf = true ∧ z0f1_l.length ≤ z0f1_c ∧ Kd.C k52 W z0f1_A z0f1_l.length z0f1_l ∧ (z0f1_l.length ≤ maxLen ∧ ∀ y0_ ∈ z0f1_l, (((Lit.int .i64 y0_.f0.f0).wf = true ∧ (Lit.int .i64 y0_.f0.f1).wf = true ∧ (Lit.int .i64 y0_.f0.f2).wf = true) ∧ (y0_.f1.length ≤ maxLen ∧ ∀ y1_ ∈ y0_.f1, (Lit.int .u8 y1_).wf = true))) ∧ z0f2_l.length ≤ z0f2_c ∧ Kd.C k57 W z0f2_A z0f2_l.length z0f2_l ∧ (z0f2_l.length ≤ maxLen ∧ ∀ y0_ ∈ z0f2_l, (((Lit.int .i64 y0_.f0.f0).wf = true ∧ (Lit.int .i64 y0_.f0.f1).wf = true ∧ (Lit.int .i64 y0_.f0.f2).wf = true) ∧ (Lit.int .i64 y0_.f1).wf = true)) := by obtain ⟨fuel, hf⟩ := h0; exact read_25 fuel _ _ hf
  obtain rfl : cs0 = #[.int .i64 z0f0_n, .slice z0f1_A z0f1_l.length z0f1_c, .slice z0f2_A z0f2_l.length z0f2_c] := by obtain ⟨l_⟩ := cs0; exact congrArg Array.mk he0
  have k1 := h1
  have lt1 : ∀ x ∈ p1, x.block < W.heap.size := by obtain ⟨m, hm⟩ := k1; exact DataW.trod_lt m _ _ _ hm
  obtain ⟨cs1, rfl⟩ := Read.okWide_struct Try.underlying35 (hval 1 35 v1 rfl rfl)
  obtain ⟨z1f0_n, z1f1_n, z1f2_n, he1, x1_0, x1_1, x1_2⟩ : ∃ (z1f0_n : Int) (z1f1_n : Int) (z1f2_n : Int), (.agg cs1 : Value).cells.toList = [.int .i64 z1f0_n, .int .i64 z1f1_n, .int .i64 z1f2_n] ∧ (Lit.int .i64 z1f0_n).wf = true ∧ (Lit.int .i64 z1f1_n).wf = true ∧ (Lit.int .i64 z1f2_n).wf = true := by obtain ⟨fuel, hf⟩ := h1; exact read_35 fuel _ _ hf
  obtain rfl : cs1 = #[.int .i64 z1f0_n, .int .i64 z1f1_n, .int .i64 z1f2_n] := by obtain ⟨l_⟩ := cs1; exact congrArg Array.mk he1
  clear hA0 hval0 hsz0 hsz
  refine (NodeFinds_law z0f0_n z0f1_A z0f1_c z0f1_l z0f2_A z0f2_c z0f2_l z1f0_n z1f1_n z1f2_n W ⟨⟨x0_0, x0_1, x0_2, x0_3, x0_4, x0_5, x0_6⟩⟩ ⟨⟨x1_0, x1_1, x1_2⟩⟩).mono fun e W' ⟨he, bel⟩ => ?_
  subst he
  exact ⟨_, rfl, _, _, _, [], _, [], hW', trodAll_mk1 (shut_bool Try.underlying4 _), (trodAll_cons_mk (Below.trod laidOut (by kernel_rfl) (of_decide_eq_true (by kernel_rfl)) k0 bel lt0) (trodAll_cons_mk (Below.trod laidOut (by kernel_rfl) (of_decide_eq_true (by kernel_rfl)) k1 bel lt1) trodAll_mk0)), rfl, bel.frame _, fun h => by cases h⟩
theorem over : Rows.nodeFindsRow.holds Try.pinned (OpenSpec.ofChange Rows.nodeFindsSpec) :=
  OpenClaim.holds_of_wide 5 Try.f5 rfl rfl rfl rfl rfl rfl rfl ⟨rfl, rfl, rfl, rfl, rfl⟩ rfl rfl rfl rfl rfl (by kernel_rfl) Try.func5 (by kernel_rfl)
    (of_decide_eq_true (by kernel_rfl)) (by unfold Func.isWrapper; first | (rw [if_pos (by decide +kernel)]; kernel_rfl) | (rw [if_neg (by decide +kernel)]; exact ⟨rfl, rfl⟩))
    (fun os started H enc _ => lifted os started H enc)
end Go.Proofs.Ytcjnknpbikfimaa.nodeFinds
namespace Go.Proofs.Ytcjnknpbikfimaa
/-- The row, under a short name, for the claim. -/
theorem nodeFinds_holds : Rows.NodeFindsSaid := nodeFinds.over
#print axioms nodeFinds_holds
end Go.Proofs.Ytcjnknpbikfimaa
