/- The law SealTurned: for every input its Go function answers true, and each argument reads afterwards as it read before. No condition. -/
import Derived.Test.YtcadbpneldjpbaaRows
import Derived.Test.YtcadbpneldjpbaaPx6
import Derived.Test.YtcadbpneldjpbaaPureSealTurned
import Derived.WalkKit
import Derived.ProofKit
import Derived.OpenShut
import Derived.ShutString
import Derived.ChangeOld
import Derived.Below
import Derived.SizedLaws
import Derived.Test.YtcadbpneldjpbaaWSized
import Derived.Test.YtcadbpneldjpbaaRead
namespace Go.Proofs.Ytcadbpneldjpbaa.sealTurned
open Go.ChangeShapes Go.WideShapes Go.ChangeAt Go.RowKit
open Go.Proofs.YtcadbpneldjpbaaW.PrintWords Go.Proofs.YtcadbpneldjpbaaW.PrintLast Go.Proofs.Ytcadbpneldjpbaa
open Go.ChangeMaps (open_string shut_string)
set_option linter.unusedVariables false
theorem own : ownKnob Try.prog.godebug = none := by kernel_rfl
theorem laidOut : laidOutB Try.prog = true := by kernel_rfl
def IsRow (k : IntKind) (w : World) (a : Option Addr) (len cap : Nat) (zs : List Int) : Prop :=
  (a = none ∧ len = 0 ∧ cap = 0 ∧ zs = []) ∨
  ∃ x, a = some x ∧ len ≤ cap ∧ cap ≤ maxLen ∧ zs.length = cap ∧ (∀ i, i < zs.length → w.cell? (x.add i) = some (.int k (zs.getD i 0))) ∧ ∀ n ∈ zs, (Lit.int k n).wf = true
set_option linter.unusedSimpArgs false
theorem read_3 {H : Type} {enc : TypeId × Value → H} {W : World} (fuel : Nat) (cs : List Value) (x : DataW H × List MemPlace) (h : DataW.trod enc Try.prog W 0 (fun _ => true) true fuel 3 cs = some x) : ∃ n : Int, cs = [.int .i64 n] ∧ (Lit.int .i64 n).wf = true := Read.int Try.underlying3 h
theorem read_23 {H : Type} {enc : TypeId × Value → H} {W : World} (fuel : Nat) (cs : List Value) (x : DataW H × List MemPlace) (h : DataW.trod enc Try.prog W 0 (fun _ => true) true fuel 23 cs = some x) : ∃ (f0_n : Int) (f1_n : Int) (f2_n : Int) (f3_n : Int) (f4_n : Int), cs = [.int .i64 f0_n, .int .i64 f1_n, .int .i64 f2_n, .int .i64 f3_n, .int .i64 f4_n] ∧ (Lit.int .i64 f0_n).wf = true ∧ (Lit.int .i64 f1_n).wf = true ∧ (Lit.int .i64 f2_n).wf = true ∧ (Lit.int .i64 f3_n).wf = true ∧ (Lit.int .i64 f4_n).wf = true := by
  obtain ⟨hl, hf⟩ := Read.struct Try.underlying23 h
  rw [show Try.prog.cellsOf 23 = 5 from by kernel_rfl] at hl
  obtain ⟨c0, c1, c2, c3, c4, rfl⟩ : ∃ c0 c1 c2 c3 c4 : Value, cs = [c0, c1, c2, c3, c4] := by
    match cs, hl with
    | [c0, c1, c2, c3, c4], _ => exact ⟨c0, c1, c2, c3, c4, rfl⟩
  obtain ⟨m0, y0, g0⟩ := hf 0 _ rfl
  (try dsimp only at g0)
  rw [show Try.prog.cellsOf 3 = 1 from by kernel_rfl] at g0
  obtain ⟨f0_n, e0, w0_0⟩ := read_3 _ _ _ g0
  simp only [List.drop_succ_cons, List.drop_zero, List.take_succ_cons, List.take_zero, List.cons.injEq, and_true] at e0
  obtain rfl := e0
  obtain ⟨m1, y1, g1⟩ := hf 1 _ rfl
  (try dsimp only at g1)
  rw [show Try.prog.cellsOf 3 = 1 from by kernel_rfl] at g1
  obtain ⟨f1_n, e1, w1_0⟩ := read_3 _ _ _ g1
  simp only [List.drop_succ_cons, List.drop_zero, List.take_succ_cons, List.take_zero, List.cons.injEq, and_true] at e1
  obtain rfl := e1
  obtain ⟨m2, y2, g2⟩ := hf 2 _ rfl
  (try dsimp only at g2)
  rw [show Try.prog.cellsOf 3 = 1 from by kernel_rfl] at g2
  obtain ⟨f2_n, e2, w2_0⟩ := read_3 _ _ _ g2
  simp only [List.drop_succ_cons, List.drop_zero, List.take_succ_cons, List.take_zero, List.cons.injEq, and_true] at e2
  obtain rfl := e2
  obtain ⟨m3, y3, g3⟩ := hf 3 _ rfl
  (try dsimp only at g3)
  rw [show Try.prog.cellsOf 3 = 1 from by kernel_rfl] at g3
  obtain ⟨f3_n, e3, w3_0⟩ := read_3 _ _ _ g3
  simp only [List.drop_succ_cons, List.drop_zero, List.take_succ_cons, List.take_zero, List.cons.injEq, and_true] at e3
  obtain rfl := e3
  obtain ⟨m4, y4, g4⟩ := hf 4 _ rfl
  (try dsimp only at g4)
  rw [show Try.prog.cellsOf 3 = 1 from by kernel_rfl] at g4
  obtain ⟨f4_n, e4, w4_0⟩ := read_3 _ _ _ g4
  simp only [List.drop_succ_cons, List.drop_zero, List.take_succ_cons, List.take_zero, List.cons.injEq, and_true] at e4
  obtain rfl := e4
  exact ⟨f0_n, f1_n, f2_n, f3_n, f4_n, rfl, w0_0, w1_0, w2_0, w3_0, w4_0⟩
theorem read_34 {H : Type} {enc : TypeId × Value → H} {W : World} (fuel : Nat) (cs : List Value) (x : DataW H × List MemPlace) (h : DataW.trod enc Try.prog W 0 (fun _ => true) true fuel 34 cs = some x) : ∃ (f0_n : Int) (f1_n : Int), cs = [.int .i64 f0_n, .int .i64 f1_n] ∧ (Lit.int .i64 f0_n).wf = true ∧ (Lit.int .i64 f1_n).wf = true := by
  obtain ⟨hl, hf⟩ := Read.arr Try.underlying34 h
  rw [show Try.prog.cellsOf 34 = 2 from by kernel_rfl] at hl
  obtain ⟨c0, c1, rfl⟩ : ∃ c0 c1 : Value, cs = [c0, c1] := by
    match cs, hl with
    | [c0, c1], _ => exact ⟨c0, c1, rfl⟩
  obtain ⟨m0, y0, g0⟩ := hf 0 (by omega)
  rw [show Try.prog.cellsOf 3 = 1 from by kernel_rfl] at g0
  (try dsimp only at g0)
  (try rw [show Try.prog.cellsOf 3 = 1 from by kernel_rfl] at g0)
  obtain ⟨f0_n, e0, w0_0⟩ := read_3 _ _ _ g0
  simp only [Nat.reduceMul, Nat.zero_mul, Nat.mul_one, Nat.one_mul, List.drop_succ_cons, List.drop_zero, List.take_succ_cons, List.take_zero, List.cons.injEq, and_true] at e0
  obtain rfl := e0
  obtain ⟨m1, y1, g1⟩ := hf 1 (by omega)
  rw [show Try.prog.cellsOf 3 = 1 from by kernel_rfl] at g1
  (try dsimp only at g1)
  (try rw [show Try.prog.cellsOf 3 = 1 from by kernel_rfl] at g1)
  obtain ⟨f1_n, e1, w1_0⟩ := read_3 _ _ _ g1
  simp only [Nat.reduceMul, Nat.zero_mul, Nat.mul_one, Nat.one_mul, List.drop_succ_cons, List.drop_zero, List.take_succ_cons, List.take_zero, List.cons.injEq, and_true] at e1
  obtain rfl := e1
  exact ⟨f0_n, f1_n, rfl, w0_0, w1_0⟩
set_option maxRecDepth 100000 in
theorem lifted (os : Os) (started : os.Started) (H : Type) (enc : TypeId × Value → H) :
    ReturnsInHanded {} Try.checked os 6 .any (Rows.sealTurnedSpec.pre6 enc Try.prog Try.f6 Rows.sealTurnedRow.domain false) (Rows.sealTurnedSpec.post enc Try.prog Try.f6 false true false false) := by
  refine returnsInHanded_of_change_sized (C := Try.checked) own started (by kernel_rfl) Try.func6
    (ChangeSpec.witness6 (enc := enc) (C := Try.checked) false ⟨#[], #[.agg #[.int .i64 0, .int .i64 0, .int .i64 0, .int .i64 0, .int .i64 0], .slice none 0 0, .agg #[.int .i64 0, .int .i64 0]], []⟩ 8 (by kernel_rfl) (by kernel_rfl) (by kernel_rfl) (by kernel_rfl)) ?_
  intro W base args ds gs before hval0 hW hcnd hsz0 _
  have hsz : (DataW.weightsEach Try.prog (Try.f6.params.toList ++ Rows.sealTurnedSpec.plain.varTypes Try.prog) (ds ++ gs)).all (· ≤ reachBytes) = true := hsz0
  have hval : ∀ (j : Nat) t v, Try.f6.params[j]? = some t → args[j]? = some v → Value.okWide Try.prog W .any base t v := hval0
  have hW' := hW
  obtain ⟨p, q, hA0, hV, rfl, hfz, hnd⟩ := hW
  have hA : DataW.TrodAll enc Try.prog W 0 (fun _ => true) true Try.f6.params.toList args.toList ds p := hA0
  rw [Try.params6] at hA hval hsz
  obtain ⟨v0, vs0, d0, ds0, p0, q0, hargs, rfl, rfl, h0, r0⟩ := trodAll_cons hA
  obtain ⟨v1, vs1, d1, ds1, p1, q1, rfl, rfl, rfl, h1, r1⟩ := trodAll_cons r0
  obtain ⟨v2, vs2, d2, ds2, p2, q2, rfl, rfl, rfl, h2, r2⟩ := trodAll_cons r1
  obtain ⟨rfl, rfl, rfl⟩ := trodAll_nil r2
  obtain rfl : args = #[v0, v1, v2] := by cases args; simp_all
  obtain ⟨rfl, rfl⟩ := trodVars_none hV
  have k0 := h0
  have lt0 : ∀ x ∈ p0, x.block < W.heap.size := by obtain ⟨m, hm⟩ := k0; exact DataW.trod_lt m _ _ _ hm
  obtain ⟨cs0, rfl⟩ := Read.okWide_struct Try.underlying23 (hval 0 23 v0 rfl rfl)
  obtain ⟨z0f0_n, z0f1_n, z0f2_n, z0f3_n, z0f4_n, he0, x0_0, x0_1, x0_2, x0_3, x0_4⟩ : ∃ (z0f0_n : Int) (z0f1_n : Int) (z0f2_n : Int) (z0f3_n : Int) (z0f4_n : Int), (.agg cs0 : Value).cells.toList = [.int .i64 z0f0_n, .int .i64 z0f1_n, .int .i64 z0f2_n, .int .i64 z0f3_n, .int .i64 z0f4_n] ∧ (Lit.int .i64 z0f0_n).wf = true ∧ (Lit.int .i64 z0f1_n).wf = true ∧ (Lit.int .i64 z0f2_n).wf = true ∧ (Lit.int .i64 z0f3_n).wf = true ∧ (Lit.int .i64 z0f4_n).wf = true := by obtain ⟨fuel, hf⟩ := h0; exact read_23 fuel _ _ hf
  obtain rfl : cs0 = #[.int .i64 z0f0_n, .int .i64 z0f1_n, .int .i64 z0f2_n, .int .i64 z0f3_n, .int .i64 z0f4_n] := by obtain ⟨l_⟩ := cs0; exact congrArg Array.mk he0
  obtain ⟨a1, len1, cap1, rfl⟩ := okWide_slice Try.underlying24 (hval 1 24 v1 rfl rfl)
  have k1 := h1
  have lt1 : ∀ x ∈ p1, x.block < W.heap.size := by obtain ⟨m, hm⟩ := k1; exact DataW.trod_lt m _ _ _ hm
  obtain ⟨z1, w1⟩ : ∃ zs, IsRow .u8 W a1 len1 cap1 zs := by
    obtain ⟨fuel, hf⟩ := h1
    rcases open_ints Try.underlying24 Try.underlying5 (by kernel_rfl) hf with ⟨hcs, _⟩ | ⟨x, l, c, zs, hcs, _, hl, hm, hz, _, hcell, hwz⟩
    · simp [Value.cells] at hcs
      obtain ⟨rfl, rfl, rfl⟩ := hcs
      exact ⟨[], .inl ⟨rfl, rfl, rfl, rfl⟩⟩
    · simp [Value.cells] at hcs
      obtain ⟨rfl, rfl, rfl⟩ := hcs
      exact ⟨zs, .inr ⟨_, rfl, hl, hm, by simpa using hz, hcell, hwz⟩⟩
  have y1 : len1 * 1 ≤ 140737488351232 := Go.Proofs.YtcadbpneldjpbaaW.PrintWords.sized_ints hsz (j := 1) (t := 24) rfl rfl Try.underlying24 Try.underlying5 (by kernel_rfl) (by kernel_rfl) h1
  have k2 := h2
  have lt2 : ∀ x ∈ p2, x.block < W.heap.size := by obtain ⟨m, hm⟩ := k2; exact DataW.trod_lt m _ _ _ hm
  obtain ⟨cs2, rfl⟩ := Read.okWide_arr Try.underlying34 (hval 2 34 v2 rfl rfl)
  obtain ⟨z2f0_n, z2f1_n, he2, x2_0, x2_1⟩ : ∃ (z2f0_n : Int) (z2f1_n : Int), (.agg cs2 : Value).cells.toList = [.int .i64 z2f0_n, .int .i64 z2f1_n] ∧ (Lit.int .i64 z2f0_n).wf = true ∧ (Lit.int .i64 z2f1_n).wf = true := by obtain ⟨fuel, hf⟩ := h2; exact read_34 fuel _ _ hf
  obtain rfl : cs2 = #[.int .i64 z2f0_n, .int .i64 z2f1_n] := by obtain ⟨l_⟩ := cs2; exact congrArg Array.mk he2
  clear hA0 hval0 hsz0 hsz
  refine (P.cambiumlaw04_SealTurned.walk Pure.SealTurned z0f0_n z0f1_n z0f2_n z0f3_n z0f4_n a1 len1 cap1 z1 z2f0_n z2f1_n W x0_0 x0_1 x0_2 x0_3 x0_4 w1 y1 x2_0 x2_1).mono fun e W' ⟨he, bel⟩ => ?_
  subst he
  exact ⟨_, rfl, _, _, _, [], _, [], hW', trodAll_mk1 (shut_bool Try.underlying4 _), (trodAll_cons_mk (Below.trod laidOut (by kernel_rfl) (of_decide_eq_true (by kernel_rfl)) k0 bel lt0) (trodAll_cons_mk (Below.trod laidOut (by kernel_rfl) (of_decide_eq_true (by kernel_rfl)) k1 bel lt1) (trodAll_cons_mk (Below.trod laidOut (by kernel_rfl) (of_decide_eq_true (by kernel_rfl)) k2 bel lt2) trodAll_mk0))), rfl, bel.frame _, fun h => by cases h⟩
theorem over : Rows.sealTurnedRow.holds Try.pinned (OpenSpec.ofChange Rows.sealTurnedSpec) :=
  OpenClaim.holds_of_wide 6 Try.f6 rfl rfl rfl rfl rfl rfl rfl ⟨rfl, rfl, rfl, rfl, rfl⟩ rfl rfl rfl rfl rfl (by kernel_rfl) Try.func6 (by kernel_rfl)
    (of_decide_eq_true (by kernel_rfl)) (by unfold Func.isWrapper; first | (rw [if_pos (by decide +kernel)]; kernel_rfl) | (rw [if_neg (by decide +kernel)]; exact ⟨rfl, rfl⟩))
    (fun os started H enc _ => lifted os started H enc)
theorem proved : Rows.SealTurnedSaid := over
#print axioms proved
end Go.Proofs.Ytcadbpneldjpbaa.sealTurned
namespace Go.Proofs.Ytcadbpneldjpbaa
/-- The row, under a short name, for the claim. -/
theorem sealTurned_holds : Rows.SealTurnedSaid := sealTurned.proved
end Go.Proofs.Ytcadbpneldjpbaa
