/- The law SuperChooses: for every input its Go function answers true, and each argument reads afterwards as it read before. No condition. -/
import Derived.Test.YtjpebckmjlmkmaaRows
import Derived.Test.YtjpebckmjlmkmaaChoosesW
import Derived.WalkKit
import Derived.ProofKit
import Derived.OpenShut
import Derived.ShutString
import Derived.ChangeOld
import Derived.Below
import Derived.SizedLaws
import Derived.Test.YtjpebckmjlmkmaaWSized
import Derived.Test.YtjpebckmjlmkmaaRead
namespace Go.Proofs.Ytjpebckmjlmkmaa.superChooses
open Go.ChangeShapes Go.WideShapes Go.ChangeAt Go.RowKit
open Go.Proofs.YtjpebckmjlmkmaaW.PrintWords Go.Proofs.YtjpebckmjlmkmaaW.PrintLast Go.Proofs.Ytjpebckmjlmkmaa Go.Proofs.Ytjpebckmjlmkmaa.P
open Go.ChangeMaps (open_string shut_string)
set_option linter.unusedVariables false
set_option linter.unusedSimpArgs false
theorem own : ownKnob Try.prog.godebug = none := by kernel_rfl
theorem laidOut : laidOutB Try.prog = true := by kernel_rfl
theorem read_3 {H : Type} {enc : TypeId × Value → H} {W : World} (fuel : Nat) (cs : List Value) (x : DataW H × List MemPlace) (h : DataW.trod enc Try.prog W 0 (fun _ => true) true fuel 3 cs = some x) : ∃ (n : Int), cs = [.int .i64 n] ∧ (Lit.int .i64 n).wf = true := Read.int Try.underlying3 h
theorem read_9 {H : Type} {enc : TypeId × Value → H} {W : World} (fuel : Nat) (cs : List Value) (x : DataW H × List MemPlace) (h : DataW.trod enc Try.prog W 0 (fun _ => true) true fuel 9 cs = some x) : ∃ (n : ByteArray), cs = [.string n] ∧ n.size ≤ maxLen := Read.str Try.underlying9 h
theorem read_4 {H : Type} {enc : TypeId × Value → H} {W : World} (fuel : Nat) (cs : List Value) (x : DataW H × List MemPlace) (h : DataW.trod enc Try.prog W 0 (fun _ => true) true fuel 4 cs = some x) : ∃ (n : Bool), cs = [.bool n] ∧ True := Read.bool Try.underlying4 h
set_option maxRecDepth 100000 in
theorem read_25 {H : Type} {enc : TypeId × Value → H} {W : World} (fuel : Nat) (cs : List Value) (x : DataW H × List MemPlace) (h : DataW.trod enc Try.prog W 0 (fun _ => true) true fuel 25 cs = some x) : ∃ (f0_n : ByteArray) (f1_n : Bool) (f2_n : Int) (f3_n : Int), cs = [.string f0_n, .bool f1_n, .int .i64 f2_n, .int .i64 f3_n] ∧ f0_n.size ≤ maxLen ∧ True ∧ (Lit.int .i64 f2_n).wf = true ∧ (Lit.int .i64 f3_n).wf = true := by
  obtain ⟨hl, hf⟩ := Read.struct Try.underlying25 h
  rw [show Try.prog.cellsOf 25 = 4 from by kernel_rfl] at hl
  obtain ⟨c0, c1, c2, c3, rfl⟩ : ∃ c0 c1 c2 c3 : Value, cs = [c0, c1, c2, c3] := by
    match cs, hl with
    | [c0, c1, c2, c3], _ => exact ⟨c0, c1, c2, c3, rfl⟩
  obtain ⟨m0, y0, g0⟩ := hf 0 _ rfl
  (try dsimp only at g0)
  rw [show Try.prog.cellsOf 9 = 1 from by kernel_rfl] at g0
  obtain ⟨f0_n, e0, p0_0⟩ := read_9 _ _ _ g0
  obtain ⟨rfl⟩ : c0 = .string f0_n := by simpa using e0
  obtain ⟨m1, y1, g1⟩ := hf 1 _ rfl
  (try dsimp only at g1)
  rw [show Try.prog.cellsOf 4 = 1 from by kernel_rfl] at g1
  obtain ⟨f1_n, e1, p1_0⟩ := read_4 _ _ _ g1
  obtain ⟨rfl⟩ : c1 = .bool f1_n := by simpa using e1
  obtain ⟨m2, y2, g2⟩ := hf 2 _ rfl
  (try dsimp only at g2)
  rw [show Try.prog.cellsOf 3 = 1 from by kernel_rfl] at g2
  obtain ⟨f2_n, e2, p2_0⟩ := read_3 _ _ _ g2
  obtain ⟨rfl⟩ : c2 = .int .i64 f2_n := by simpa using e2
  obtain ⟨m3, y3, g3⟩ := hf 3 _ rfl
  (try dsimp only at g3)
  rw [show Try.prog.cellsOf 3 = 1 from by kernel_rfl] at g3
  obtain ⟨f3_n, e3, p3_0⟩ := read_3 _ _ _ g3
  obtain ⟨rfl⟩ : c3 = .int .i64 f3_n := by simpa using e3
  exact ⟨f0_n, f1_n, f2_n, f3_n, rfl, p0_0, p1_0, p2_0, p3_0⟩
set_option maxRecDepth 100000 in
theorem read_26 {H : Type} {enc : TypeId × Value → H} {W : World} (fuel : Nat) (cs : List Value) (x : DataW H × List MemPlace) (h : DataW.trod enc Try.prog W 0 (fun _ => true) true fuel 26 cs = some x) : ∃ (f0_f0_n : ByteArray) (f0_f1_n : Bool) (f0_f2_n : Int) (f0_f3_n : Int) (f1_f0_n : ByteArray) (f1_f1_n : Bool) (f1_f2_n : Int) (f1_f3_n : Int) (f2_f0_n : ByteArray) (f2_f1_n : Bool) (f2_f2_n : Int) (f2_f3_n : Int) (f3_f0_n : ByteArray) (f3_f1_n : Bool) (f3_f2_n : Int) (f3_f3_n : Int) (f4_f0_n : ByteArray) (f4_f1_n : Bool) (f4_f2_n : Int) (f4_f3_n : Int) (f5_f0_n : ByteArray) (f5_f1_n : Bool) (f5_f2_n : Int) (f5_f3_n : Int) (f6_f0_n : ByteArray) (f6_f1_n : Bool) (f6_f2_n : Int) (f6_f3_n : Int) (f7_f0_n : ByteArray) (f7_f1_n : Bool) (f7_f2_n : Int) (f7_f3_n : Int), cs = [.string f0_f0_n, .bool f0_f1_n, .int .i64 f0_f2_n, .int .i64 f0_f3_n, .string f1_f0_n, .bool f1_f1_n, .int .i64 f1_f2_n, .int .i64 f1_f3_n, .string f2_f0_n, .bool f2_f1_n, .int .i64 f2_f2_n, .int .i64 f2_f3_n, .string f3_f0_n, .bool f3_f1_n, .int .i64 f3_f2_n, .int .i64 f3_f3_n, .string f4_f0_n, .bool f4_f1_n, .int .i64 f4_f2_n, .int .i64 f4_f3_n, .string f5_f0_n, .bool f5_f1_n, .int .i64 f5_f2_n, .int .i64 f5_f3_n, .string f6_f0_n, .bool f6_f1_n, .int .i64 f6_f2_n, .int .i64 f6_f3_n, .string f7_f0_n, .bool f7_f1_n, .int .i64 f7_f2_n, .int .i64 f7_f3_n] ∧ f0_f0_n.size ≤ maxLen ∧ True ∧ (Lit.int .i64 f0_f2_n).wf = true ∧ (Lit.int .i64 f0_f3_n).wf = true ∧ f1_f0_n.size ≤ maxLen ∧ True ∧ (Lit.int .i64 f1_f2_n).wf = true ∧ (Lit.int .i64 f1_f3_n).wf = true ∧ f2_f0_n.size ≤ maxLen ∧ True ∧ (Lit.int .i64 f2_f2_n).wf = true ∧ (Lit.int .i64 f2_f3_n).wf = true ∧ f3_f0_n.size ≤ maxLen ∧ True ∧ (Lit.int .i64 f3_f2_n).wf = true ∧ (Lit.int .i64 f3_f3_n).wf = true ∧ f4_f0_n.size ≤ maxLen ∧ True ∧ (Lit.int .i64 f4_f2_n).wf = true ∧ (Lit.int .i64 f4_f3_n).wf = true ∧ f5_f0_n.size ≤ maxLen ∧ True ∧ (Lit.int .i64 f5_f2_n).wf = true ∧ (Lit.int .i64 f5_f3_n).wf = true ∧ f6_f0_n.size ≤ maxLen ∧ True ∧ (Lit.int .i64 f6_f2_n).wf = true ∧ (Lit.int .i64 f6_f3_n).wf = true ∧ f7_f0_n.size ≤ maxLen ∧ True ∧ (Lit.int .i64 f7_f2_n).wf = true ∧ (Lit.int .i64 f7_f3_n).wf = true := by
  obtain ⟨hl, hf⟩ := Read.arr Try.underlying26 h
  rw [show Try.prog.cellsOf 26 = 32 from by kernel_rfl] at hl
  obtain ⟨c0, c1, c2, c3, c4, c5, c6, c7, c8, c9, c10, c11, c12, c13, c14, c15, c16, c17, c18, c19, c20, c21, c22, c23, c24, c25, c26, c27, c28, c29, c30, c31, rfl⟩ : ∃ c0 c1 c2 c3 c4 c5 c6 c7 c8 c9 c10 c11 c12 c13 c14 c15 c16 c17 c18 c19 c20 c21 c22 c23 c24 c25 c26 c27 c28 c29 c30 c31 : Value, cs = [c0, c1, c2, c3, c4, c5, c6, c7, c8, c9, c10, c11, c12, c13, c14, c15, c16, c17, c18, c19, c20, c21, c22, c23, c24, c25, c26, c27, c28, c29, c30, c31] := by
    match cs, hl with
    | c0 :: c1 :: c2 :: c3 :: c4 :: c5 :: c6 :: c7 :: c8 :: c9 :: c10 :: c11 :: c12 :: c13 :: c14 :: c15 :: c16 :: c17 :: c18 :: c19 :: c20 :: c21 :: c22 :: c23 :: c24 :: c25 :: c26 :: c27 :: c28 :: c29 :: c30 :: c31 :: [], _ => exact ⟨c0, c1, c2, c3, c4, c5, c6, c7, c8, c9, c10, c11, c12, c13, c14, c15, c16, c17, c18, c19, c20, c21, c22, c23, c24, c25, c26, c27, c28, c29, c30, c31, rfl⟩
  obtain ⟨m0, y0, g0⟩ := hf 0 (by omega)
  (try dsimp only at g0)
  rw [show Try.prog.cellsOf 25 = 4 from by kernel_rfl] at g0
  obtain ⟨f0_f0_n, f0_f1_n, f0_f2_n, f0_f3_n, e0, p0_0, p0_1, p0_2, p0_3⟩ := read_25 _ _ _ g0
  obtain ⟨rfl, rfl, rfl, rfl⟩ : c0 = .string f0_f0_n ∧ c1 = .bool f0_f1_n ∧ c2 = .int .i64 f0_f2_n ∧ c3 = .int .i64 f0_f3_n := by simpa using e0
  obtain ⟨m1, y1, g1⟩ := hf 1 (by omega)
  (try dsimp only at g1)
  rw [show Try.prog.cellsOf 25 = 4 from by kernel_rfl] at g1
  obtain ⟨f1_f0_n, f1_f1_n, f1_f2_n, f1_f3_n, e1, p1_0, p1_1, p1_2, p1_3⟩ := read_25 _ _ _ g1
  obtain ⟨rfl, rfl, rfl, rfl⟩ : c4 = .string f1_f0_n ∧ c5 = .bool f1_f1_n ∧ c6 = .int .i64 f1_f2_n ∧ c7 = .int .i64 f1_f3_n := by simpa using e1
  obtain ⟨m2, y2, g2⟩ := hf 2 (by omega)
  (try dsimp only at g2)
  rw [show Try.prog.cellsOf 25 = 4 from by kernel_rfl] at g2
  obtain ⟨f2_f0_n, f2_f1_n, f2_f2_n, f2_f3_n, e2, p2_0, p2_1, p2_2, p2_3⟩ := read_25 _ _ _ g2
  obtain ⟨rfl, rfl, rfl, rfl⟩ : c8 = .string f2_f0_n ∧ c9 = .bool f2_f1_n ∧ c10 = .int .i64 f2_f2_n ∧ c11 = .int .i64 f2_f3_n := by simpa using e2
  obtain ⟨m3, y3, g3⟩ := hf 3 (by omega)
  (try dsimp only at g3)
  rw [show Try.prog.cellsOf 25 = 4 from by kernel_rfl] at g3
  obtain ⟨f3_f0_n, f3_f1_n, f3_f2_n, f3_f3_n, e3, p3_0, p3_1, p3_2, p3_3⟩ := read_25 _ _ _ g3
  obtain ⟨rfl, rfl, rfl, rfl⟩ : c12 = .string f3_f0_n ∧ c13 = .bool f3_f1_n ∧ c14 = .int .i64 f3_f2_n ∧ c15 = .int .i64 f3_f3_n := by simpa using e3
  obtain ⟨m4, y4, g4⟩ := hf 4 (by omega)
  (try dsimp only at g4)
  rw [show Try.prog.cellsOf 25 = 4 from by kernel_rfl] at g4
  obtain ⟨f4_f0_n, f4_f1_n, f4_f2_n, f4_f3_n, e4, p4_0, p4_1, p4_2, p4_3⟩ := read_25 _ _ _ g4
  obtain ⟨rfl, rfl, rfl, rfl⟩ : c16 = .string f4_f0_n ∧ c17 = .bool f4_f1_n ∧ c18 = .int .i64 f4_f2_n ∧ c19 = .int .i64 f4_f3_n := by simpa using e4
  obtain ⟨m5, y5, g5⟩ := hf 5 (by omega)
  (try dsimp only at g5)
  rw [show Try.prog.cellsOf 25 = 4 from by kernel_rfl] at g5
  obtain ⟨f5_f0_n, f5_f1_n, f5_f2_n, f5_f3_n, e5, p5_0, p5_1, p5_2, p5_3⟩ := read_25 _ _ _ g5
  obtain ⟨rfl, rfl, rfl, rfl⟩ : c20 = .string f5_f0_n ∧ c21 = .bool f5_f1_n ∧ c22 = .int .i64 f5_f2_n ∧ c23 = .int .i64 f5_f3_n := by simpa using e5
  obtain ⟨m6, y6, g6⟩ := hf 6 (by omega)
  (try dsimp only at g6)
  rw [show Try.prog.cellsOf 25 = 4 from by kernel_rfl] at g6
  obtain ⟨f6_f0_n, f6_f1_n, f6_f2_n, f6_f3_n, e6, p6_0, p6_1, p6_2, p6_3⟩ := read_25 _ _ _ g6
  obtain ⟨rfl, rfl, rfl, rfl⟩ : c24 = .string f6_f0_n ∧ c25 = .bool f6_f1_n ∧ c26 = .int .i64 f6_f2_n ∧ c27 = .int .i64 f6_f3_n := by simpa using e6
  obtain ⟨m7, y7, g7⟩ := hf 7 (by omega)
  (try dsimp only at g7)
  rw [show Try.prog.cellsOf 25 = 4 from by kernel_rfl] at g7
  obtain ⟨f7_f0_n, f7_f1_n, f7_f2_n, f7_f3_n, e7, p7_0, p7_1, p7_2, p7_3⟩ := read_25 _ _ _ g7
  obtain ⟨rfl, rfl, rfl, rfl⟩ : c28 = .string f7_f0_n ∧ c29 = .bool f7_f1_n ∧ c30 = .int .i64 f7_f2_n ∧ c31 = .int .i64 f7_f3_n := by simpa using e7
  exact ⟨f0_f0_n, f0_f1_n, f0_f2_n, f0_f3_n, f1_f0_n, f1_f1_n, f1_f2_n, f1_f3_n, f2_f0_n, f2_f1_n, f2_f2_n, f2_f3_n, f3_f0_n, f3_f1_n, f3_f2_n, f3_f3_n, f4_f0_n, f4_f1_n, f4_f2_n, f4_f3_n, f5_f0_n, f5_f1_n, f5_f2_n, f5_f3_n, f6_f0_n, f6_f1_n, f6_f2_n, f6_f3_n, f7_f0_n, f7_f1_n, f7_f2_n, f7_f3_n, rfl, p0_0, p0_1, p0_2, p0_3, p1_0, p1_1, p1_2, p1_3, p2_0, p2_1, p2_2, p2_3, p3_0, p3_1, p3_2, p3_3, p4_0, p4_1, p4_2, p4_3, p5_0, p5_1, p5_2, p5_3, p6_0, p6_1, p6_2, p6_3, p7_0, p7_1, p7_2, p7_3⟩
set_option maxRecDepth 100000 in
theorem read_28 {H : Type} {enc : TypeId × Value → H} {W : World} (fuel : Nat) (cs : List Value) (x : DataW H × List MemPlace) (h : DataW.trod enc Try.prog W 0 (fun _ => true) true fuel 28 cs = some x) : ∃ (f0_n : Int) (f1_n : Int) (f2_n : Int) (f3_f0_f0_n : ByteArray) (f3_f0_f1_n : Bool) (f3_f0_f2_n : Int) (f3_f0_f3_n : Int) (f3_f1_f0_n : ByteArray) (f3_f1_f1_n : Bool) (f3_f1_f2_n : Int) (f3_f1_f3_n : Int) (f3_f2_f0_n : ByteArray) (f3_f2_f1_n : Bool) (f3_f2_f2_n : Int) (f3_f2_f3_n : Int) (f3_f3_f0_n : ByteArray) (f3_f3_f1_n : Bool) (f3_f3_f2_n : Int) (f3_f3_f3_n : Int) (f3_f4_f0_n : ByteArray) (f3_f4_f1_n : Bool) (f3_f4_f2_n : Int) (f3_f4_f3_n : Int) (f3_f5_f0_n : ByteArray) (f3_f5_f1_n : Bool) (f3_f5_f2_n : Int) (f3_f5_f3_n : Int) (f3_f6_f0_n : ByteArray) (f3_f6_f1_n : Bool) (f3_f6_f2_n : Int) (f3_f6_f3_n : Int) (f3_f7_f0_n : ByteArray) (f3_f7_f1_n : Bool) (f3_f7_f2_n : Int) (f3_f7_f3_n : Int), cs = [.int .i64 f0_n, .int .i64 f1_n, .int .i64 f2_n, .string f3_f0_f0_n, .bool f3_f0_f1_n, .int .i64 f3_f0_f2_n, .int .i64 f3_f0_f3_n, .string f3_f1_f0_n, .bool f3_f1_f1_n, .int .i64 f3_f1_f2_n, .int .i64 f3_f1_f3_n, .string f3_f2_f0_n, .bool f3_f2_f1_n, .int .i64 f3_f2_f2_n, .int .i64 f3_f2_f3_n, .string f3_f3_f0_n, .bool f3_f3_f1_n, .int .i64 f3_f3_f2_n, .int .i64 f3_f3_f3_n, .string f3_f4_f0_n, .bool f3_f4_f1_n, .int .i64 f3_f4_f2_n, .int .i64 f3_f4_f3_n, .string f3_f5_f0_n, .bool f3_f5_f1_n, .int .i64 f3_f5_f2_n, .int .i64 f3_f5_f3_n, .string f3_f6_f0_n, .bool f3_f6_f1_n, .int .i64 f3_f6_f2_n, .int .i64 f3_f6_f3_n, .string f3_f7_f0_n, .bool f3_f7_f1_n, .int .i64 f3_f7_f2_n, .int .i64 f3_f7_f3_n] ∧ (Lit.int .i64 f0_n).wf = true ∧ (Lit.int .i64 f1_n).wf = true ∧ (Lit.int .i64 f2_n).wf = true ∧ f3_f0_f0_n.size ≤ maxLen ∧ True ∧ (Lit.int .i64 f3_f0_f2_n).wf = true ∧ (Lit.int .i64 f3_f0_f3_n).wf = true ∧ f3_f1_f0_n.size ≤ maxLen ∧ True ∧ (Lit.int .i64 f3_f1_f2_n).wf = true ∧ (Lit.int .i64 f3_f1_f3_n).wf = true ∧ f3_f2_f0_n.size ≤ maxLen ∧ True ∧ (Lit.int .i64 f3_f2_f2_n).wf = true ∧ (Lit.int .i64 f3_f2_f3_n).wf = true ∧ f3_f3_f0_n.size ≤ maxLen ∧ True ∧ (Lit.int .i64 f3_f3_f2_n).wf = true ∧ (Lit.int .i64 f3_f3_f3_n).wf = true ∧ f3_f4_f0_n.size ≤ maxLen ∧ True ∧ (Lit.int .i64 f3_f4_f2_n).wf = true ∧ (Lit.int .i64 f3_f4_f3_n).wf = true ∧ f3_f5_f0_n.size ≤ maxLen ∧ True ∧ (Lit.int .i64 f3_f5_f2_n).wf = true ∧ (Lit.int .i64 f3_f5_f3_n).wf = true ∧ f3_f6_f0_n.size ≤ maxLen ∧ True ∧ (Lit.int .i64 f3_f6_f2_n).wf = true ∧ (Lit.int .i64 f3_f6_f3_n).wf = true ∧ f3_f7_f0_n.size ≤ maxLen ∧ True ∧ (Lit.int .i64 f3_f7_f2_n).wf = true ∧ (Lit.int .i64 f3_f7_f3_n).wf = true := by
  obtain ⟨hl, hf⟩ := Read.struct Try.underlying28 h
  rw [show Try.prog.cellsOf 28 = 35 from by kernel_rfl] at hl
  obtain ⟨c0, c1, c2, c3, c4, c5, c6, c7, c8, c9, c10, c11, c12, c13, c14, c15, c16, c17, c18, c19, c20, c21, c22, c23, c24, c25, c26, c27, c28, c29, c30, c31, c32, c33, c34, rfl⟩ : ∃ c0 c1 c2 c3 c4 c5 c6 c7 c8 c9 c10 c11 c12 c13 c14 c15 c16 c17 c18 c19 c20 c21 c22 c23 c24 c25 c26 c27 c28 c29 c30 c31 c32 c33 c34 : Value, cs = [c0, c1, c2, c3, c4, c5, c6, c7, c8, c9, c10, c11, c12, c13, c14, c15, c16, c17, c18, c19, c20, c21, c22, c23, c24, c25, c26, c27, c28, c29, c30, c31, c32, c33, c34] := by
    match cs, hl with
    | c0 :: c1 :: c2 :: c3 :: c4 :: c5 :: c6 :: c7 :: c8 :: c9 :: c10 :: c11 :: c12 :: c13 :: c14 :: c15 :: c16 :: c17 :: c18 :: c19 :: c20 :: c21 :: c22 :: c23 :: c24 :: c25 :: c26 :: c27 :: c28 :: c29 :: c30 :: c31 :: c32 :: c33 :: c34 :: [], _ => exact ⟨c0, c1, c2, c3, c4, c5, c6, c7, c8, c9, c10, c11, c12, c13, c14, c15, c16, c17, c18, c19, c20, c21, c22, c23, c24, c25, c26, c27, c28, c29, c30, c31, c32, c33, c34, rfl⟩
  obtain ⟨m0, y0, g0⟩ := hf 0 _ rfl
  (try dsimp only at g0)
  rw [show Try.prog.cellsOf 3 = 1 from by kernel_rfl] at g0
  obtain ⟨f0_n, e0, p0_0⟩ := read_3 _ _ _ g0
  obtain ⟨rfl⟩ : c0 = .int .i64 f0_n := by simpa using e0
  obtain ⟨m1, y1, g1⟩ := hf 1 _ rfl
  (try dsimp only at g1)
  rw [show Try.prog.cellsOf 3 = 1 from by kernel_rfl] at g1
  obtain ⟨f1_n, e1, p1_0⟩ := read_3 _ _ _ g1
  obtain ⟨rfl⟩ : c1 = .int .i64 f1_n := by simpa using e1
  obtain ⟨m2, y2, g2⟩ := hf 2 _ rfl
  (try dsimp only at g2)
  rw [show Try.prog.cellsOf 3 = 1 from by kernel_rfl] at g2
  obtain ⟨f2_n, e2, p2_0⟩ := read_3 _ _ _ g2
  obtain ⟨rfl⟩ : c2 = .int .i64 f2_n := by simpa using e2
  obtain ⟨m3, y3, g3⟩ := hf 3 _ rfl
  (try dsimp only at g3)
  rw [show Try.prog.cellsOf 26 = 32 from by kernel_rfl] at g3
  obtain ⟨f3_f0_f0_n, f3_f0_f1_n, f3_f0_f2_n, f3_f0_f3_n, f3_f1_f0_n, f3_f1_f1_n, f3_f1_f2_n, f3_f1_f3_n, f3_f2_f0_n, f3_f2_f1_n, f3_f2_f2_n, f3_f2_f3_n, f3_f3_f0_n, f3_f3_f1_n, f3_f3_f2_n, f3_f3_f3_n, f3_f4_f0_n, f3_f4_f1_n, f3_f4_f2_n, f3_f4_f3_n, f3_f5_f0_n, f3_f5_f1_n, f3_f5_f2_n, f3_f5_f3_n, f3_f6_f0_n, f3_f6_f1_n, f3_f6_f2_n, f3_f6_f3_n, f3_f7_f0_n, f3_f7_f1_n, f3_f7_f2_n, f3_f7_f3_n, e3, p3_0, p3_1, p3_2, p3_3, p3_4, p3_5, p3_6, p3_7, p3_8, p3_9, p3_10, p3_11, p3_12, p3_13, p3_14, p3_15, p3_16, p3_17, p3_18, p3_19, p3_20, p3_21, p3_22, p3_23, p3_24, p3_25, p3_26, p3_27, p3_28, p3_29, p3_30, p3_31⟩ := read_26 _ _ _ g3
  obtain ⟨rfl, rfl, rfl, rfl, rfl, rfl, rfl, rfl, rfl, rfl, rfl, rfl, rfl, rfl, rfl, rfl, rfl, rfl, rfl, rfl, rfl, rfl, rfl, rfl, rfl, rfl, rfl, rfl, rfl, rfl, rfl, rfl⟩ : c3 = .string f3_f0_f0_n ∧ c4 = .bool f3_f0_f1_n ∧ c5 = .int .i64 f3_f0_f2_n ∧ c6 = .int .i64 f3_f0_f3_n ∧ c7 = .string f3_f1_f0_n ∧ c8 = .bool f3_f1_f1_n ∧ c9 = .int .i64 f3_f1_f2_n ∧ c10 = .int .i64 f3_f1_f3_n ∧ c11 = .string f3_f2_f0_n ∧ c12 = .bool f3_f2_f1_n ∧ c13 = .int .i64 f3_f2_f2_n ∧ c14 = .int .i64 f3_f2_f3_n ∧ c15 = .string f3_f3_f0_n ∧ c16 = .bool f3_f3_f1_n ∧ c17 = .int .i64 f3_f3_f2_n ∧ c18 = .int .i64 f3_f3_f3_n ∧ c19 = .string f3_f4_f0_n ∧ c20 = .bool f3_f4_f1_n ∧ c21 = .int .i64 f3_f4_f2_n ∧ c22 = .int .i64 f3_f4_f3_n ∧ c23 = .string f3_f5_f0_n ∧ c24 = .bool f3_f5_f1_n ∧ c25 = .int .i64 f3_f5_f2_n ∧ c26 = .int .i64 f3_f5_f3_n ∧ c27 = .string f3_f6_f0_n ∧ c28 = .bool f3_f6_f1_n ∧ c29 = .int .i64 f3_f6_f2_n ∧ c30 = .int .i64 f3_f6_f3_n ∧ c31 = .string f3_f7_f0_n ∧ c32 = .bool f3_f7_f1_n ∧ c33 = .int .i64 f3_f7_f2_n ∧ c34 = .int .i64 f3_f7_f3_n := by simpa using e3
  exact ⟨f0_n, f1_n, f2_n, f3_f0_f0_n, f3_f0_f1_n, f3_f0_f2_n, f3_f0_f3_n, f3_f1_f0_n, f3_f1_f1_n, f3_f1_f2_n, f3_f1_f3_n, f3_f2_f0_n, f3_f2_f1_n, f3_f2_f2_n, f3_f2_f3_n, f3_f3_f0_n, f3_f3_f1_n, f3_f3_f2_n, f3_f3_f3_n, f3_f4_f0_n, f3_f4_f1_n, f3_f4_f2_n, f3_f4_f3_n, f3_f5_f0_n, f3_f5_f1_n, f3_f5_f2_n, f3_f5_f3_n, f3_f6_f0_n, f3_f6_f1_n, f3_f6_f2_n, f3_f6_f3_n, f3_f7_f0_n, f3_f7_f1_n, f3_f7_f2_n, f3_f7_f3_n, rfl, p0_0, p1_0, p2_0, p3_0, p3_1, p3_2, p3_3, p3_4, p3_5, p3_6, p3_7, p3_8, p3_9, p3_10, p3_11, p3_12, p3_13, p3_14, p3_15, p3_16, p3_17, p3_18, p3_19, p3_20, p3_21, p3_22, p3_23, p3_24, p3_25, p3_26, p3_27, p3_28, p3_29, p3_30, p3_31⟩
set_option maxRecDepth 100000 in
theorem read_45 {H : Type} {enc : TypeId × Value → H} {W : World} (fuel : Nat) (cs : List Value) (x : DataW H × List MemPlace) (h : DataW.trod enc Try.prog W 0 (fun _ => true) true fuel 45 cs = some x) : ∃ (f0_n : Int) (f1_n : Int), cs = [.int .i64 f0_n, .int .i64 f1_n] ∧ (Lit.int .i64 f0_n).wf = true ∧ (Lit.int .i64 f1_n).wf = true := by
  obtain ⟨hl, hf⟩ := Read.arr Try.underlying45 h
  rw [show Try.prog.cellsOf 45 = 2 from by kernel_rfl] at hl
  obtain ⟨c0, c1, rfl⟩ : ∃ c0 c1 : Value, cs = [c0, c1] := by
    match cs, hl with
    | [c0, c1], _ => exact ⟨c0, c1, rfl⟩
  obtain ⟨m0, y0, g0⟩ := hf 0 (by omega)
  (try dsimp only at g0)
  rw [show Try.prog.cellsOf 3 = 1 from by kernel_rfl] at g0
  obtain ⟨f0_n, e0, p0_0⟩ := read_3 _ _ _ g0
  obtain ⟨rfl⟩ : c0 = .int .i64 f0_n := by simpa using e0
  obtain ⟨m1, y1, g1⟩ := hf 1 (by omega)
  (try dsimp only at g1)
  rw [show Try.prog.cellsOf 3 = 1 from by kernel_rfl] at g1
  obtain ⟨f1_n, e1, p1_0⟩ := read_3 _ _ _ g1
  obtain ⟨rfl⟩ : c1 = .int .i64 f1_n := by simpa using e1
  exact ⟨f0_n, f1_n, rfl, p0_0, p1_0⟩
set_option maxRecDepth 100000 in
theorem lifted (os : Os) (started : os.Started) (H : Type) (enc : TypeId × Value → H) :
    ReturnsInHanded {} Try.checked os 9 .any (Rows.superChoosesSpec.pre6 enc Try.prog Try.f9 Rows.superChoosesRow.domain false) (Rows.superChoosesSpec.post enc Try.prog Try.f9 false true false false) := by
  refine returnsInHanded_of_change_sized (C := Try.checked) own started (by kernel_rfl) Try.func9
    (ChangeSpec.witness6 (enc := enc) (C := Try.checked) false ⟨#[], #[.agg #[.int .i64 0, .int .i64 0, .int .i64 0, .string ByteArray.empty, .bool false, .int .i64 0, .int .i64 0, .string ByteArray.empty, .bool false, .int .i64 0, .int .i64 0, .string ByteArray.empty, .bool false, .int .i64 0, .int .i64 0, .string ByteArray.empty, .bool false, .int .i64 0, .int .i64 0, .string ByteArray.empty, .bool false, .int .i64 0, .int .i64 0, .string ByteArray.empty, .bool false, .int .i64 0, .int .i64 0, .string ByteArray.empty, .bool false, .int .i64 0, .int .i64 0, .string ByteArray.empty, .bool false, .int .i64 0, .int .i64 0], .agg #[.int .i64 0, .int .i64 0, .int .i64 0, .string ByteArray.empty, .bool false, .int .i64 0, .int .i64 0, .string ByteArray.empty, .bool false, .int .i64 0, .int .i64 0, .string ByteArray.empty, .bool false, .int .i64 0, .int .i64 0, .string ByteArray.empty, .bool false, .int .i64 0, .int .i64 0, .string ByteArray.empty, .bool false, .int .i64 0, .int .i64 0, .string ByteArray.empty, .bool false, .int .i64 0, .int .i64 0, .string ByteArray.empty, .bool false, .int .i64 0, .int .i64 0, .string ByteArray.empty, .bool false, .int .i64 0, .int .i64 0], .agg #[.int .i64 0, .int .i64 0]], []⟩ 8 (by kernel_rfl) (by kernel_rfl) (by kernel_rfl) (by kernel_rfl)) ?_
  intro W base args ds gs before hval0 hW hcnd hsz0 _
  have hsz : (DataW.weightsEach Try.prog (Try.f9.params.toList ++ Rows.superChoosesSpec.plain.varTypes Try.prog) (ds ++ gs)).all (· ≤ reachBytes) = true := hsz0
  have hval : ∀ (j : Nat) t v, Try.f9.params[j]? = some t → args[j]? = some v → Value.okWide Try.prog W .any base t v := hval0
  have hW' := hW
  obtain ⟨p, q, hA0, hV, rfl, hfz, hnd⟩ := hW
  have hA : DataW.TrodAll enc Try.prog W 0 (fun _ => true) true Try.f9.params.toList args.toList ds p := hA0
  rw [Try.params9] at hA hval hsz
  obtain ⟨v0, vs0, d0, ds0, p0, q0, hargs, rfl, rfl, h0, r0⟩ := trodAll_cons hA
  obtain ⟨v1, vs1, d1, ds1, p1, q1, rfl, rfl, rfl, h1, r1⟩ := trodAll_cons r0
  obtain ⟨v2, vs2, d2, ds2, p2, q2, rfl, rfl, rfl, h2, r2⟩ := trodAll_cons r1
  obtain ⟨rfl, rfl, rfl⟩ := trodAll_nil r2
  obtain rfl : args = #[v0, v1, v2] := by cases args; simp_all
  obtain ⟨rfl, rfl⟩ := trodVars_none hV
  have k0 := h0
  have lt0 : ∀ x ∈ p0, x.block < W.heap.size := by obtain ⟨m, hm⟩ := k0; exact DataW.trod_lt m _ _ _ hm
  obtain ⟨cs0, rfl⟩ := Read.okWide_struct Try.underlying28 (hval 0 28 v0 rfl rfl)
  obtain ⟨z0f0_n, z0f1_n, z0f2_n, z0f3_f0_f0_n, z0f3_f0_f1_n, z0f3_f0_f2_n, z0f3_f0_f3_n, z0f3_f1_f0_n, z0f3_f1_f1_n, z0f3_f1_f2_n, z0f3_f1_f3_n, z0f3_f2_f0_n, z0f3_f2_f1_n, z0f3_f2_f2_n, z0f3_f2_f3_n, z0f3_f3_f0_n, z0f3_f3_f1_n, z0f3_f3_f2_n, z0f3_f3_f3_n, z0f3_f4_f0_n, z0f3_f4_f1_n, z0f3_f4_f2_n, z0f3_f4_f3_n, z0f3_f5_f0_n, z0f3_f5_f1_n, z0f3_f5_f2_n, z0f3_f5_f3_n, z0f3_f6_f0_n, z0f3_f6_f1_n, z0f3_f6_f2_n, z0f3_f6_f3_n, z0f3_f7_f0_n, z0f3_f7_f1_n, z0f3_f7_f2_n, z0f3_f7_f3_n, he0, x0_0, x0_1, x0_2, x0_3, x0_4, x0_5, x0_6, x0_7, x0_8, x0_9, x0_10, x0_11, x0_12, x0_13, x0_14, x0_15, x0_16, x0_17, x0_18, x0_19, x0_20, x0_21, x0_22, x0_23, x0_24, x0_25, x0_26, x0_27, x0_28, x0_29, x0_30, x0_31, x0_32, x0_33, x0_34⟩ : ∃ (z0f0_n : Int) (z0f1_n : Int) (z0f2_n : Int) (z0f3_f0_f0_n : ByteArray) (z0f3_f0_f1_n : Bool) (z0f3_f0_f2_n : Int) (z0f3_f0_f3_n : Int) (z0f3_f1_f0_n : ByteArray) (z0f3_f1_f1_n : Bool) (z0f3_f1_f2_n : Int) (z0f3_f1_f3_n : Int) (z0f3_f2_f0_n : ByteArray) (z0f3_f2_f1_n : Bool) (z0f3_f2_f2_n : Int) (z0f3_f2_f3_n : Int) (z0f3_f3_f0_n : ByteArray) (z0f3_f3_f1_n : Bool) (z0f3_f3_f2_n : Int) (z0f3_f3_f3_n : Int) (z0f3_f4_f0_n : ByteArray) (z0f3_f4_f1_n : Bool) (z0f3_f4_f2_n : Int) (z0f3_f4_f3_n : Int) (z0f3_f5_f0_n : ByteArray) (z0f3_f5_f1_n : Bool) (z0f3_f5_f2_n : Int) (z0f3_f5_f3_n : Int) (z0f3_f6_f0_n : ByteArray) (z0f3_f6_f1_n : Bool) (z0f3_f6_f2_n : Int) (z0f3_f6_f3_n : Int) (z0f3_f7_f0_n : ByteArray) (z0f3_f7_f1_n : Bool) (z0f3_f7_f2_n : Int) (z0f3_f7_f3_n : Int), (.agg cs0 : Value).cells.toList = [.int .i64 z0f0_n, .int .i64 z0f1_n, .int .i64 z0f2_n, .string z0f3_f0_f0_n, .bool z0f3_f0_f1_n, .int .i64 z0f3_f0_f2_n, .int .i64 z0f3_f0_f3_n, .string z0f3_f1_f0_n, .bool z0f3_f1_f1_n, .int .i64 z0f3_f1_f2_n, .int .i64 z0f3_f1_f3_n, .string z0f3_f2_f0_n, .bool z0f3_f2_f1_n, .int .i64 z0f3_f2_f2_n, .int .i64 z0f3_f2_f3_n, .string z0f3_f3_f0_n, .bool z0f3_f3_f1_n, .int .i64 z0f3_f3_f2_n, .int .i64 z0f3_f3_f3_n, .string z0f3_f4_f0_n, .bool z0f3_f4_f1_n, .int .i64 z0f3_f4_f2_n, .int .i64 z0f3_f4_f3_n, .string z0f3_f5_f0_n, .bool z0f3_f5_f1_n, .int .i64 z0f3_f5_f2_n, .int .i64 z0f3_f5_f3_n, .string z0f3_f6_f0_n, .bool z0f3_f6_f1_n, .int .i64 z0f3_f6_f2_n, .int .i64 z0f3_f6_f3_n, .string z0f3_f7_f0_n, .bool z0f3_f7_f1_n, .int .i64 z0f3_f7_f2_n, .int .i64 z0f3_f7_f3_n] ∧ (Lit.int .i64 z0f0_n).wf = true ∧ (Lit.int .i64 z0f1_n).wf = true ∧ (Lit.int .i64 z0f2_n).wf = true ∧ z0f3_f0_f0_n.size ≤ maxLen ∧ True ∧ (Lit.int .i64 z0f3_f0_f2_n).wf = true ∧ (Lit.int .i64 z0f3_f0_f3_n).wf = true ∧ z0f3_f1_f0_n.size ≤ maxLen ∧ True ∧ (Lit.int .i64 z0f3_f1_f2_n).wf = true ∧ (Lit.int .i64 z0f3_f1_f3_n).wf = true ∧ z0f3_f2_f0_n.size ≤ maxLen ∧ True ∧ (Lit.int .i64 z0f3_f2_f2_n).wf = true ∧ (Lit.int .i64 z0f3_f2_f3_n).wf = true ∧ z0f3_f3_f0_n.size ≤ maxLen ∧ True ∧ (Lit.int .i64 z0f3_f3_f2_n).wf = true ∧ (Lit.int .i64 z0f3_f3_f3_n).wf = true ∧ z0f3_f4_f0_n.size ≤ maxLen ∧ True ∧ (Lit.int .i64 z0f3_f4_f2_n).wf = true ∧ (Lit.int .i64 z0f3_f4_f3_n).wf = true ∧ z0f3_f5_f0_n.size ≤ maxLen ∧ True ∧ (Lit.int .i64 z0f3_f5_f2_n).wf = true ∧ (Lit.int .i64 z0f3_f5_f3_n).wf = true ∧ z0f3_f6_f0_n.size ≤ maxLen ∧ True ∧ (Lit.int .i64 z0f3_f6_f2_n).wf = true ∧ (Lit.int .i64 z0f3_f6_f3_n).wf = true ∧ z0f3_f7_f0_n.size ≤ maxLen ∧ True ∧ (Lit.int .i64 z0f3_f7_f2_n).wf = true ∧ (Lit.int .i64 z0f3_f7_f3_n).wf = true := by obtain ⟨fuel, hf⟩ := h0; exact read_28 fuel _ _ hf
  obtain rfl : cs0 = #[.int .i64 z0f0_n, .int .i64 z0f1_n, .int .i64 z0f2_n, .string z0f3_f0_f0_n, .bool z0f3_f0_f1_n, .int .i64 z0f3_f0_f2_n, .int .i64 z0f3_f0_f3_n, .string z0f3_f1_f0_n, .bool z0f3_f1_f1_n, .int .i64 z0f3_f1_f2_n, .int .i64 z0f3_f1_f3_n, .string z0f3_f2_f0_n, .bool z0f3_f2_f1_n, .int .i64 z0f3_f2_f2_n, .int .i64 z0f3_f2_f3_n, .string z0f3_f3_f0_n, .bool z0f3_f3_f1_n, .int .i64 z0f3_f3_f2_n, .int .i64 z0f3_f3_f3_n, .string z0f3_f4_f0_n, .bool z0f3_f4_f1_n, .int .i64 z0f3_f4_f2_n, .int .i64 z0f3_f4_f3_n, .string z0f3_f5_f0_n, .bool z0f3_f5_f1_n, .int .i64 z0f3_f5_f2_n, .int .i64 z0f3_f5_f3_n, .string z0f3_f6_f0_n, .bool z0f3_f6_f1_n, .int .i64 z0f3_f6_f2_n, .int .i64 z0f3_f6_f3_n, .string z0f3_f7_f0_n, .bool z0f3_f7_f1_n, .int .i64 z0f3_f7_f2_n, .int .i64 z0f3_f7_f3_n] := by obtain ⟨l_⟩ := cs0; exact congrArg Array.mk he0
  have k1 := h1
  have lt1 : ∀ x ∈ p1, x.block < W.heap.size := by obtain ⟨m, hm⟩ := k1; exact DataW.trod_lt m _ _ _ hm
  obtain ⟨cs1, rfl⟩ := Read.okWide_struct Try.underlying28 (hval 1 28 v1 rfl rfl)
  obtain ⟨z1f0_n, z1f1_n, z1f2_n, z1f3_f0_f0_n, z1f3_f0_f1_n, z1f3_f0_f2_n, z1f3_f0_f3_n, z1f3_f1_f0_n, z1f3_f1_f1_n, z1f3_f1_f2_n, z1f3_f1_f3_n, z1f3_f2_f0_n, z1f3_f2_f1_n, z1f3_f2_f2_n, z1f3_f2_f3_n, z1f3_f3_f0_n, z1f3_f3_f1_n, z1f3_f3_f2_n, z1f3_f3_f3_n, z1f3_f4_f0_n, z1f3_f4_f1_n, z1f3_f4_f2_n, z1f3_f4_f3_n, z1f3_f5_f0_n, z1f3_f5_f1_n, z1f3_f5_f2_n, z1f3_f5_f3_n, z1f3_f6_f0_n, z1f3_f6_f1_n, z1f3_f6_f2_n, z1f3_f6_f3_n, z1f3_f7_f0_n, z1f3_f7_f1_n, z1f3_f7_f2_n, z1f3_f7_f3_n, he1, x1_0, x1_1, x1_2, x1_3, x1_4, x1_5, x1_6, x1_7, x1_8, x1_9, x1_10, x1_11, x1_12, x1_13, x1_14, x1_15, x1_16, x1_17, x1_18, x1_19, x1_20, x1_21, x1_22, x1_23, x1_24, x1_25, x1_26, x1_27, x1_28, x1_29, x1_30, x1_31, x1_32, x1_33, x1_34⟩ : ∃ (z1f0_n : Int) (z1f1_n : Int) (z1f2_n : Int) (z1f3_f0_f0_n : ByteArray) (z1f3_f0_f1_n : Bool) (z1f3_f0_f2_n : Int) (z1f3_f0_f3_n : Int) (z1f3_f1_f0_n : ByteArray) (z1f3_f1_f1_n : Bool) (z1f3_f1_f2_n : Int) (z1f3_f1_f3_n : Int) (z1f3_f2_f0_n : ByteArray) (z1f3_f2_f1_n : Bool) (z1f3_f2_f2_n : Int) (z1f3_f2_f3_n : Int) (z1f3_f3_f0_n : ByteArray) (z1f3_f3_f1_n : Bool) (z1f3_f3_f2_n : Int) (z1f3_f3_f3_n : Int) (z1f3_f4_f0_n : ByteArray) (z1f3_f4_f1_n : Bool) (z1f3_f4_f2_n : Int) (z1f3_f4_f3_n : Int) (z1f3_f5_f0_n : ByteArray) (z1f3_f5_f1_n : Bool) (z1f3_f5_f2_n : Int) (z1f3_f5_f3_n : Int) (z1f3_f6_f0_n : ByteArray) (z1f3_f6_f1_n : Bool) (z1f3_f6_f2_n : Int) (z1f3_f6_f3_n : Int) (z1f3_f7_f0_n : ByteArray) (z1f3_f7_f1_n : Bool) (z1f3_f7_f2_n : Int) (z1f3_f7_f3_n : Int), (.agg cs1 : Value).cells.toList = [.int .i64 z1f0_n, .int .i64 z1f1_n, .int .i64 z1f2_n, .string z1f3_f0_f0_n, .bool z1f3_f0_f1_n, .int .i64 z1f3_f0_f2_n, .int .i64 z1f3_f0_f3_n, .string z1f3_f1_f0_n, .bool z1f3_f1_f1_n, .int .i64 z1f3_f1_f2_n, .int .i64 z1f3_f1_f3_n, .string z1f3_f2_f0_n, .bool z1f3_f2_f1_n, .int .i64 z1f3_f2_f2_n, .int .i64 z1f3_f2_f3_n, .string z1f3_f3_f0_n, .bool z1f3_f3_f1_n, .int .i64 z1f3_f3_f2_n, .int .i64 z1f3_f3_f3_n, .string z1f3_f4_f0_n, .bool z1f3_f4_f1_n, .int .i64 z1f3_f4_f2_n, .int .i64 z1f3_f4_f3_n, .string z1f3_f5_f0_n, .bool z1f3_f5_f1_n, .int .i64 z1f3_f5_f2_n, .int .i64 z1f3_f5_f3_n, .string z1f3_f6_f0_n, .bool z1f3_f6_f1_n, .int .i64 z1f3_f6_f2_n, .int .i64 z1f3_f6_f3_n, .string z1f3_f7_f0_n, .bool z1f3_f7_f1_n, .int .i64 z1f3_f7_f2_n, .int .i64 z1f3_f7_f3_n] ∧ (Lit.int .i64 z1f0_n).wf = true ∧ (Lit.int .i64 z1f1_n).wf = true ∧ (Lit.int .i64 z1f2_n).wf = true ∧ z1f3_f0_f0_n.size ≤ maxLen ∧ True ∧ (Lit.int .i64 z1f3_f0_f2_n).wf = true ∧ (Lit.int .i64 z1f3_f0_f3_n).wf = true ∧ z1f3_f1_f0_n.size ≤ maxLen ∧ True ∧ (Lit.int .i64 z1f3_f1_f2_n).wf = true ∧ (Lit.int .i64 z1f3_f1_f3_n).wf = true ∧ z1f3_f2_f0_n.size ≤ maxLen ∧ True ∧ (Lit.int .i64 z1f3_f2_f2_n).wf = true ∧ (Lit.int .i64 z1f3_f2_f3_n).wf = true ∧ z1f3_f3_f0_n.size ≤ maxLen ∧ True ∧ (Lit.int .i64 z1f3_f3_f2_n).wf = true ∧ (Lit.int .i64 z1f3_f3_f3_n).wf = true ∧ z1f3_f4_f0_n.size ≤ maxLen ∧ True ∧ (Lit.int .i64 z1f3_f4_f2_n).wf = true ∧ (Lit.int .i64 z1f3_f4_f3_n).wf = true ∧ z1f3_f5_f0_n.size ≤ maxLen ∧ True ∧ (Lit.int .i64 z1f3_f5_f2_n).wf = true ∧ (Lit.int .i64 z1f3_f5_f3_n).wf = true ∧ z1f3_f6_f0_n.size ≤ maxLen ∧ True ∧ (Lit.int .i64 z1f3_f6_f2_n).wf = true ∧ (Lit.int .i64 z1f3_f6_f3_n).wf = true ∧ z1f3_f7_f0_n.size ≤ maxLen ∧ True ∧ (Lit.int .i64 z1f3_f7_f2_n).wf = true ∧ (Lit.int .i64 z1f3_f7_f3_n).wf = true := by obtain ⟨fuel, hf⟩ := h1; exact read_28 fuel _ _ hf
  obtain rfl : cs1 = #[.int .i64 z1f0_n, .int .i64 z1f1_n, .int .i64 z1f2_n, .string z1f3_f0_f0_n, .bool z1f3_f0_f1_n, .int .i64 z1f3_f0_f2_n, .int .i64 z1f3_f0_f3_n, .string z1f3_f1_f0_n, .bool z1f3_f1_f1_n, .int .i64 z1f3_f1_f2_n, .int .i64 z1f3_f1_f3_n, .string z1f3_f2_f0_n, .bool z1f3_f2_f1_n, .int .i64 z1f3_f2_f2_n, .int .i64 z1f3_f2_f3_n, .string z1f3_f3_f0_n, .bool z1f3_f3_f1_n, .int .i64 z1f3_f3_f2_n, .int .i64 z1f3_f3_f3_n, .string z1f3_f4_f0_n, .bool z1f3_f4_f1_n, .int .i64 z1f3_f4_f2_n, .int .i64 z1f3_f4_f3_n, .string z1f3_f5_f0_n, .bool z1f3_f5_f1_n, .int .i64 z1f3_f5_f2_n, .int .i64 z1f3_f5_f3_n, .string z1f3_f6_f0_n, .bool z1f3_f6_f1_n, .int .i64 z1f3_f6_f2_n, .int .i64 z1f3_f6_f3_n, .string z1f3_f7_f0_n, .bool z1f3_f7_f1_n, .int .i64 z1f3_f7_f2_n, .int .i64 z1f3_f7_f3_n] := by obtain ⟨l_⟩ := cs1; exact congrArg Array.mk he1
  have k2 := h2
  have lt2 : ∀ x ∈ p2, x.block < W.heap.size := by obtain ⟨m, hm⟩ := k2; exact DataW.trod_lt m _ _ _ hm
  obtain ⟨cs2, rfl⟩ := Read.okWide_arr Try.underlying45 (hval 2 45 v2 rfl rfl)
  obtain ⟨z2f0_n, z2f1_n, he2, x2_0, x2_1⟩ : ∃ (z2f0_n : Int) (z2f1_n : Int), (.agg cs2 : Value).cells.toList = [.int .i64 z2f0_n, .int .i64 z2f1_n] ∧ (Lit.int .i64 z2f0_n).wf = true ∧ (Lit.int .i64 z2f1_n).wf = true := by obtain ⟨fuel, hf⟩ := h2; exact read_45 fuel _ _ hf
  obtain rfl : cs2 = #[.int .i64 z2f0_n, .int .i64 z2f1_n] := by obtain ⟨l_⟩ := cs2; exact congrArg Array.mk he2
  clear hA0 hval0 hsz0 hsz
  refine (SuperChooses_law z0f0_n z0f1_n z0f2_n z0f3_f0_f0_n z0f3_f0_f1_n z0f3_f0_f2_n z0f3_f0_f3_n z0f3_f1_f0_n z0f3_f1_f1_n z0f3_f1_f2_n z0f3_f1_f3_n z0f3_f2_f0_n z0f3_f2_f1_n z0f3_f2_f2_n z0f3_f2_f3_n z0f3_f3_f0_n z0f3_f3_f1_n z0f3_f3_f2_n z0f3_f3_f3_n z0f3_f4_f0_n z0f3_f4_f1_n z0f3_f4_f2_n z0f3_f4_f3_n z0f3_f5_f0_n z0f3_f5_f1_n z0f3_f5_f2_n z0f3_f5_f3_n z0f3_f6_f0_n z0f3_f6_f1_n z0f3_f6_f2_n z0f3_f6_f3_n z0f3_f7_f0_n z0f3_f7_f1_n z0f3_f7_f2_n z0f3_f7_f3_n z1f0_n z1f1_n z1f2_n z1f3_f0_f0_n z1f3_f0_f1_n z1f3_f0_f2_n z1f3_f0_f3_n z1f3_f1_f0_n z1f3_f1_f1_n z1f3_f1_f2_n z1f3_f1_f3_n z1f3_f2_f0_n z1f3_f2_f1_n z1f3_f2_f2_n z1f3_f2_f3_n z1f3_f3_f0_n z1f3_f3_f1_n z1f3_f3_f2_n z1f3_f3_f3_n z1f3_f4_f0_n z1f3_f4_f1_n z1f3_f4_f2_n z1f3_f4_f3_n z1f3_f5_f0_n z1f3_f5_f1_n z1f3_f5_f2_n z1f3_f5_f3_n z1f3_f6_f0_n z1f3_f6_f1_n z1f3_f6_f2_n z1f3_f6_f3_n z1f3_f7_f0_n z1f3_f7_f1_n z1f3_f7_f2_n z1f3_f7_f3_n z2f0_n z2f1_n W ⟨⟨x0_0, x0_1, x0_2, x0_3, x0_4, x0_5, x0_6, x0_7, x0_8, x0_9, x0_10, x0_11, x0_12, x0_13, x0_14, x0_15, x0_16, x0_17, x0_18, x0_19, x0_20, x0_21, x0_22, x0_23, x0_24, x0_25, x0_26, x0_27, x0_28, x0_29, x0_30, x0_31, x0_32, x0_33, x0_34⟩⟩ ⟨⟨x1_0, x1_1, x1_2, x1_3, x1_4, x1_5, x1_6, x1_7, x1_8, x1_9, x1_10, x1_11, x1_12, x1_13, x1_14, x1_15, x1_16, x1_17, x1_18, x1_19, x1_20, x1_21, x1_22, x1_23, x1_24, x1_25, x1_26, x1_27, x1_28, x1_29, x1_30, x1_31, x1_32, x1_33, x1_34⟩⟩ ⟨⟨x2_0, x2_1⟩⟩).mono fun e W' ⟨he, bel⟩ => ?_
  subst he
  exact ⟨_, rfl, _, _, _, [], _, [], hW', trodAll_mk1 (shut_bool Try.underlying4 _), (trodAll_cons_mk (Below.trod laidOut (by kernel_rfl) (of_decide_eq_true (by kernel_rfl)) k0 bel lt0) (trodAll_cons_mk (Below.trod laidOut (by kernel_rfl) (of_decide_eq_true (by kernel_rfl)) k1 bel lt1) (trodAll_cons_mk (Below.trod laidOut (by kernel_rfl) (of_decide_eq_true (by kernel_rfl)) k2 bel lt2) trodAll_mk0))), rfl, bel.frame _, fun h => by cases h⟩
theorem over : Rows.superChoosesRow.holds Try.pinned (OpenSpec.ofChange Rows.superChoosesSpec) :=
  OpenClaim.holds_of_wide 9 Try.f9 rfl rfl rfl rfl rfl rfl rfl ⟨rfl, rfl, rfl, rfl, rfl⟩ rfl rfl rfl rfl rfl (by kernel_rfl) Try.func9 (by kernel_rfl)
    (of_decide_eq_true (by kernel_rfl)) (by unfold Func.isWrapper; first | (rw [if_pos (by decide +kernel)]; kernel_rfl) | (rw [if_neg (by decide +kernel)]; exact ⟨rfl, rfl⟩))
    (fun os started H enc _ => lifted os started H enc)
end Go.Proofs.Ytjpebckmjlmkmaa.superChooses
namespace Go.Proofs.Ytjpebckmjlmkmaa
/-- The row, under a short name, for the claim. -/
theorem superChooses_holds : Rows.SuperChoosesSaid := superChooses.over
#print axioms superChooses_holds
end Go.Proofs.Ytjpebckmjlmkmaa
