/- The law InodeBack: for every input its Go function answers true, and each argument reads afterwards as it read before. No condition. -/
import Derived.Test.YtpahlfjfadammaaRows
import Derived.Test.YtpahlfjfadammaaPx8
import Derived.Test.YtpahlfjfadammaaPureInodeBack
import Derived.WalkKit
import Derived.ProofKit
import Derived.OpenShut
import Derived.ShutString
import Derived.ChangeOld
import Derived.Below
import Derived.SizedLaws
import Derived.Test.YtpahlfjfadammaaWSized
import Derived.Test.YtpahlfjfadammaaRead
namespace Go.Proofs.Ytpahlfjfadammaa.inodeBack
open Go.ChangeShapes Go.WideShapes Go.ChangeAt Go.RowKit
open Go.Proofs.YtpahlfjfadammaaW.PrintWords Go.Proofs.YtpahlfjfadammaaW.PrintLast Go.Proofs.Ytpahlfjfadammaa
open Go.ChangeMaps (open_string shut_string)
set_option linter.unusedVariables false
theorem own : ownKnob Try.prog.godebug = none := by kernel_rfl
theorem laidOut : laidOutB Try.prog = true := by kernel_rfl
def IsRow (k : IntKind) (w : World) (a : Option Addr) (len cap : Nat) (zs : List Int) : Prop :=
  (a = none ∧ len = 0 ∧ cap = 0 ∧ zs = []) ∨
  ∃ x, a = some x ∧ len ≤ cap ∧ cap ≤ maxLen ∧ zs.length = cap ∧ (∀ i, i < zs.length → w.cell? (x.add i) = some (.int k (zs.getD i 0))) ∧ ∀ n ∈ zs, (Lit.int k n).wf = true
set_option linter.unusedSimpArgs false
theorem read_3 {H : Type} {enc : TypeId × Value → H} {W : World} (fuel : Nat) (cs : List Value) (x : DataW H × List MemPlace) (h : DataW.trod enc Try.prog W 0 (fun _ => true) true fuel 3 cs = some x) : ∃ n : Int, cs = [.int .i64 n] ∧ (Lit.int .i64 n).wf = true := Read.int Try.underlying3 h
theorem read_23 {H : Type} {enc : TypeId × Value → H} {W : World} (fuel : Nat) (cs : List Value) (x : DataW H × List MemPlace) (h : DataW.trod enc Try.prog W 0 (fun _ => true) true fuel 23 cs = some x) : ∃ (f0_n : Int) (f1_n : Int) (f2_n : Int), cs = [.int .i64 f0_n, .int .i64 f1_n, .int .i64 f2_n] ∧ (Lit.int .i64 f0_n).wf = true ∧ (Lit.int .i64 f1_n).wf = true ∧ (Lit.int .i64 f2_n).wf = true := by
  obtain ⟨hl, hf⟩ := Read.struct Try.underlying23 h
  rw [show Try.prog.cellsOf 23 = 3 from by kernel_rfl] at hl
  obtain ⟨c0, c1, c2, rfl⟩ : ∃ c0 c1 c2 : Value, cs = [c0, c1, c2] := by
    match cs, hl with
    | [c0, c1, c2], _ => exact ⟨c0, c1, c2, rfl⟩
  obtain ⟨m0, y0, g0⟩ := hf 0 _ rfl
  (try dsimp only at g0)
  rw [show Try.prog.cellsOf 3 = 1 from by kernel_rfl] at g0
  obtain ⟨f0_n, e0, w0_0⟩ := read_3 _ _ _ g0
  simp only [List.drop_succ_cons, List.drop_zero, List.take_succ_cons, List.take_zero, List.cons.injEq, and_true] at e0
  obtain rfl := e0
  obtain ⟨m1, y1, g1⟩ := hf 1 _ rfl
  (try dsimp only at g1)
  rw [show Try.prog.cellsOf 3 = 1 from by kernel_rfl] at g1
  obtain ⟨f1_n, e1, w1_0⟩ := read_3 _ _ _ g1
  simp only [List.drop_succ_cons, List.drop_zero, List.take_succ_cons, List.take_zero, List.cons.injEq, and_true] at e1
  obtain rfl := e1
  obtain ⟨m2, y2, g2⟩ := hf 2 _ rfl
  (try dsimp only at g2)
  rw [show Try.prog.cellsOf 3 = 1 from by kernel_rfl] at g2
  obtain ⟨f2_n, e2, w2_0⟩ := read_3 _ _ _ g2
  simp only [List.drop_succ_cons, List.drop_zero, List.take_succ_cons, List.take_zero, List.cons.injEq, and_true] at e2
  obtain rfl := e2
  exact ⟨f0_n, f1_n, f2_n, rfl, w0_0, w1_0, w2_0⟩
theorem read_9 {H : Type} {enc : TypeId × Value → H} {W : World} (fuel : Nat) (cs : List Value) (x : DataW H × List MemPlace) (h : DataW.trod enc Try.prog W 0 (fun _ => true) true fuel 9 cs = some x) : ∃ n : ByteArray, cs = [.string n] ∧ n.size ≤ maxLen := Read.str Try.underlying9 h
theorem read_25 {H : Type} {enc : TypeId × Value → H} {W : World} (fuel : Nat) (cs : List Value) (x : DataW H × List MemPlace) (h : DataW.trod enc Try.prog W 0 (fun _ => true) true fuel 25 cs = some x) : ∃ (f0_n : ByteArray) (f1_n : Int) (f2_n : Int), cs = [.string f0_n, .int .i64 f1_n, .int .i64 f2_n] ∧ f0_n.size ≤ maxLen ∧ (Lit.int .i64 f1_n).wf = true ∧ (Lit.int .i64 f2_n).wf = true := by
  obtain ⟨hl, hf⟩ := Read.struct Try.underlying25 h
  rw [show Try.prog.cellsOf 25 = 3 from by kernel_rfl] at hl
  obtain ⟨c0, c1, c2, rfl⟩ : ∃ c0 c1 c2 : Value, cs = [c0, c1, c2] := by
    match cs, hl with
    | [c0, c1, c2], _ => exact ⟨c0, c1, c2, rfl⟩
  obtain ⟨m0, y0, g0⟩ := hf 0 _ rfl
  (try dsimp only at g0)
  rw [show Try.prog.cellsOf 9 = 1 from by kernel_rfl] at g0
  obtain ⟨f0_n, e0, w0_0⟩ := read_9 _ _ _ g0
  simp only [List.drop_succ_cons, List.drop_zero, List.take_succ_cons, List.take_zero, List.cons.injEq, and_true] at e0
  obtain rfl := e0
  obtain ⟨m1, y1, g1⟩ := hf 1 _ rfl
  (try dsimp only at g1)
  rw [show Try.prog.cellsOf 3 = 1 from by kernel_rfl] at g1
  obtain ⟨f1_n, e1, w1_0⟩ := read_3 _ _ _ g1
  simp only [List.drop_succ_cons, List.drop_zero, List.take_succ_cons, List.take_zero, List.cons.injEq, and_true] at e1
  obtain rfl := e1
  obtain ⟨m2, y2, g2⟩ := hf 2 _ rfl
  (try dsimp only at g2)
  rw [show Try.prog.cellsOf 3 = 1 from by kernel_rfl] at g2
  obtain ⟨f2_n, e2, w2_0⟩ := read_3 _ _ _ g2
  simp only [List.drop_succ_cons, List.drop_zero, List.take_succ_cons, List.take_zero, List.cons.injEq, and_true] at e2
  obtain rfl := e2
  exact ⟨f0_n, f1_n, f2_n, rfl, w0_0, w1_0, w2_0⟩
theorem read_5 {H : Type} {enc : TypeId × Value → H} {W : World} (fuel : Nat) (cs : List Value) (x : DataW H × List MemPlace) (h : DataW.trod enc Try.prog W 0 (fun _ => true) true fuel 5 cs = some x) : ∃ n : Int, cs = [.int .u8 n] ∧ (Lit.int .u8 n).wf = true := Read.int Try.underlying5 h
theorem read_26 {H : Type} {enc : TypeId × Value → H} {W : World} (fuel : Nat) (cs : List Value) (x : DataW H × List MemPlace) (h : DataW.trod enc Try.prog W 0 (fun _ => true) true fuel 26 cs = some x) : ∃ (A : Option Addr) (c : Nat) (l : List Int), cs = [.slice A l.length c] ∧ l.length ≤ c ∧ Kd.C (Kd.int .u8) W A l.length l ∧ (l.length ≤ maxLen ∧ ∀ y0_ ∈ l, (Lit.int .u8 y0_).wf = true) := Read.slice (Kd.int .u8) (fun y_ => (Lit.int .u8 y_).wf = true) Try.underlying26 (by kernel_rfl) (fun fuel cs x h => by obtain ⟨n, rfl, w⟩ := read_5 fuel cs x h; exact ⟨n, rfl, w⟩) h
theorem read_28 {H : Type} {enc : TypeId × Value → H} {W : World} (fuel : Nat) (cs : List Value) (x : DataW H × List MemPlace) (h : DataW.trod enc Try.prog W 0 (fun _ => true) true fuel 28 cs = some x) : ∃ (f0_A : Option Addr) (f0_c : Nat) (f0_l : List Int) (f1_n : Int), cs = [.slice f0_A f0_l.length f0_c, .int .i64 f1_n] ∧ f0_l.length ≤ f0_c ∧ Kd.C (Kd.int .u8) W f0_A f0_l.length f0_l ∧ (f0_l.length ≤ maxLen ∧ ∀ y0_ ∈ f0_l, (Lit.int .u8 y0_).wf = true) ∧ (Lit.int .i64 f1_n).wf = true := by
  obtain ⟨hl, hf⟩ := Read.struct Try.underlying28 h
  rw [show Try.prog.cellsOf 28 = 2 from by kernel_rfl] at hl
  obtain ⟨c0, c1, rfl⟩ : ∃ c0 c1 : Value, cs = [c0, c1] := by
    match cs, hl with
    | [c0, c1], _ => exact ⟨c0, c1, rfl⟩
  obtain ⟨m0, y0, g0⟩ := hf 0 _ rfl
  (try dsimp only at g0)
  rw [show Try.prog.cellsOf 26 = 1 from by kernel_rfl] at g0
  obtain ⟨f0_A, f0_c, f0_l, e0, w0_0, w0_1, w0_2⟩ := read_26 _ _ _ g0
  simp only [List.drop_succ_cons, List.drop_zero, List.take_succ_cons, List.take_zero, List.cons.injEq, and_true] at e0
  obtain rfl := e0
  obtain ⟨m1, y1, g1⟩ := hf 1 _ rfl
  (try dsimp only at g1)
  rw [show Try.prog.cellsOf 3 = 1 from by kernel_rfl] at g1
  obtain ⟨f1_n, e1, w1_0⟩ := read_3 _ _ _ g1
  simp only [List.drop_succ_cons, List.drop_zero, List.take_succ_cons, List.take_zero, List.cons.injEq, and_true] at e1
  obtain rfl := e1
  exact ⟨f0_A, f0_c, f0_l, f1_n, rfl, w0_0, w0_1, w0_2, w1_0⟩
set_option maxRecDepth 100000 in
theorem lifted (os : Os) (started : os.Started) (H : Type) (enc : TypeId × Value → H) :
    ReturnsInHanded {} Try.checked os 6 .any (Rows.inodeBackSpec.pre6 enc Try.prog Try.f6 Rows.inodeBackRow.domain false) (Rows.inodeBackSpec.post enc Try.prog Try.f6 false true false false) := by
  refine returnsInHanded_of_change_sized (C := Try.checked) own started (by kernel_rfl) Try.func6
    (ChangeSpec.witness6 (enc := enc) (C := Try.checked) false ⟨#[], #[.agg #[.int .i64 0, .int .i64 0, .int .i64 0], .agg #[.string ByteArray.empty, .int .i64 0, .int .i64 0], .agg #[.slice none 0 0, .int .i64 0]], []⟩ 8 (by kernel_rfl) (by kernel_rfl) (by kernel_rfl) (by kernel_rfl)) ?_
  intro W base args ds gs before hval0 hW hcnd hsz0 _
  have hsz : (DataW.weightsEach Try.prog (Try.f6.params.toList ++ Rows.inodeBackSpec.plain.varTypes Try.prog) (ds ++ gs)).all (· ≤ reachBytes) = true := hsz0
  have hval : ∀ (j : Nat) t v, Try.f6.params[j]? = some t → args[j]? = some v → Value.okWide Try.prog W .any base t v := hval0
  have hW' := hW
  obtain ⟨p, q, hA0, hV, rfl, hfz, hnd⟩ := hW
  have hA : DataW.TrodAll enc Try.prog W 0 (fun _ => true) true Try.f6.params.toList args.toList ds p := hA0
  rw [Try.params6] at hA hval hsz
  obtain ⟨v0, vs0, d0, ds0, p0, q0, hargs, rfl, rfl, h0, r0⟩ := trodAll_cons hA
  obtain ⟨v1, vs1, d1, ds1, p1, q1, rfl, rfl, rfl, h1, r1⟩ := trodAll_cons r0
  obtain ⟨v2, vs2, d2, ds2, p2, q2, rfl, rfl, rfl, h2, r2⟩ := trodAll_cons r1
  obtain ⟨rfl, rfl, rfl⟩ := trodAll_nil r2
  obtain rfl : args = #[v0, v1, v2] := by cases args; simp_all
  obtain ⟨rfl, rfl⟩ := trodVars_none hV
  have k0 := h0
  have lt0 : ∀ x ∈ p0, x.block < W.heap.size := by obtain ⟨m, hm⟩ := k0; exact DataW.trod_lt m _ _ _ hm
  obtain ⟨cs0, rfl⟩ := Read.okWide_struct Try.underlying23 (hval 0 23 v0 rfl rfl)
  obtain ⟨z0f0_n, z0f1_n, z0f2_n, he0, x0_0, x0_1, x0_2⟩ : ∃ (z0f0_n : Int) (z0f1_n : Int) (z0f2_n : Int), (.agg cs0 : Value).cells.toList = [.int .i64 z0f0_n, .int .i64 z0f1_n, .int .i64 z0f2_n] ∧ (Lit.int .i64 z0f0_n).wf = true ∧ (Lit.int .i64 z0f1_n).wf = true ∧ (Lit.int .i64 z0f2_n).wf = true := by obtain ⟨fuel, hf⟩ := h0; exact read_23 fuel _ _ hf
  obtain rfl : cs0 = #[.int .i64 z0f0_n, .int .i64 z0f1_n, .int .i64 z0f2_n] := by obtain ⟨l_⟩ := cs0; exact congrArg Array.mk he0
  have k1 := h1
  have lt1 : ∀ x ∈ p1, x.block < W.heap.size := by obtain ⟨m, hm⟩ := k1; exact DataW.trod_lt m _ _ _ hm
  obtain ⟨cs1, rfl⟩ := Read.okWide_struct Try.underlying25 (hval 1 25 v1 rfl rfl)
  obtain ⟨z1f0_n, z1f1_n, z1f2_n, he1, x1_0, x1_1, x1_2⟩ : ∃ (z1f0_n : ByteArray) (z1f1_n : Int) (z1f2_n : Int), (.agg cs1 : Value).cells.toList = [.string z1f0_n, .int .i64 z1f1_n, .int .i64 z1f2_n] ∧ z1f0_n.size ≤ maxLen ∧ (Lit.int .i64 z1f1_n).wf = true ∧ (Lit.int .i64 z1f2_n).wf = true := by obtain ⟨fuel, hf⟩ := h1; exact read_25 fuel _ _ hf
  obtain rfl : cs1 = #[.string z1f0_n, .int .i64 z1f1_n, .int .i64 z1f2_n] := by obtain ⟨l_⟩ := cs1; exact congrArg Array.mk he1
  have k2 := h2
  have lt2 : ∀ x ∈ p2, x.block < W.heap.size := by obtain ⟨m, hm⟩ := k2; exact DataW.trod_lt m _ _ _ hm
  obtain ⟨cs2, rfl⟩ := Read.okWide_struct Try.underlying28 (hval 2 28 v2 rfl rfl)
  obtain ⟨z2f0_A, z2f0_c, z2f0_l, z2f1_n, he2, x2_0, x2_1, x2_2, x2_3⟩ : ∃ (z2f0_A : Option Addr) (z2f0_c : Nat) (z2f0_l : List Int) (z2f1_n : Int), (.agg cs2 : Value).cells.toList = [.slice z2f0_A z2f0_l.length z2f0_c, .int .i64 z2f1_n] ∧ z2f0_l.length ≤ z2f0_c ∧ Kd.C (Kd.int .u8) W z2f0_A z2f0_l.length z2f0_l ∧ (z2f0_l.length ≤ maxLen ∧ ∀ y0_ ∈ z2f0_l, (Lit.int .u8 y0_).wf = true) ∧ (Lit.int .i64 z2f1_n).wf = true := by obtain ⟨fuel, hf⟩ := h2; exact read_28 fuel _ _ hf
  obtain rfl : cs2 = #[.slice z2f0_A z2f0_l.length z2f0_c, .int .i64 z2f1_n] := by obtain ⟨l_⟩ := cs2; exact congrArg Array.mk he2
  clear hA0 hval0 hsz0 hsz
  refine (P.cambiumlaw13_InodeBack.walk Pure.InodeBack z0f0_n z0f1_n z0f2_n z1f0_n z1f1_n z1f2_n z2f0_A z2f0_c z2f0_l z2f1_n W x0_0 x0_1 x0_2 x1_0 x1_1 x1_2 x2_1 x2_0 x2_2 x2_3).mono fun e W' ⟨he, bel⟩ => ?_
  subst he
  exact ⟨_, rfl, _, _, _, [], _, [], hW', trodAll_mk1 (shut_bool Try.underlying4 _), (trodAll_cons_mk (Below.trod laidOut (by kernel_rfl) (of_decide_eq_true (by kernel_rfl)) k0 bel lt0) (trodAll_cons_mk (Below.trod laidOut (by kernel_rfl) (of_decide_eq_true (by kernel_rfl)) k1 bel lt1) (trodAll_cons_mk (Below.trod laidOut (by kernel_rfl) (of_decide_eq_true (by kernel_rfl)) k2 bel lt2) trodAll_mk0))), rfl, bel.frame _, fun h => by cases h⟩
theorem over : Rows.inodeBackRow.holds Try.pinned (OpenSpec.ofChange Rows.inodeBackSpec) :=
  OpenClaim.holds_of_wide 6 Try.f6 rfl rfl rfl rfl rfl rfl rfl ⟨rfl, rfl, rfl, rfl, rfl⟩ rfl rfl rfl rfl rfl (by kernel_rfl) Try.func6 (by kernel_rfl)
    (of_decide_eq_true (by kernel_rfl)) (by unfold Func.isWrapper; first | (rw [if_pos (by decide +kernel)]; kernel_rfl) | (rw [if_neg (by decide +kernel)]; exact ⟨rfl, rfl⟩))
    (fun os started H enc _ => lifted os started H enc)
theorem proved : Rows.InodeBackSaid := over
#print axioms proved
end Go.Proofs.Ytpahlfjfadammaa.inodeBack
namespace Go.Proofs.Ytpahlfjfadammaa
/-- The row, under a short name, for the claim. -/
theorem inodeBack_holds : Rows.InodeBackSaid := inodeBack.proved
end Go.Proofs.Ytpahlfjfadammaa
