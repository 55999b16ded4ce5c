/- The law NumRows: for every input its Go function answers true, and each argument reads afterwards as it read before. No condition. -/
import Derived.Test.YtimnbcblejcmcaaRows
import Derived.Test.YtimnbcblejcmcaaPx2
import Derived.Test.YtimnbcblejcmcaaPureNumRows
import Derived.WalkKit
import Derived.ProofKit
import Derived.OpenShut
import Derived.ShutString
import Derived.ChangeOld
import Derived.Below
import Derived.SizedLaws
import Derived.Test.YtimnbcblejcmcaaWSized
import Derived.Test.YtimnbcblejcmcaaRead
namespace Go.Proofs.Ytimnbcblejcmcaa.numRows
open Go.ChangeShapes Go.WideShapes Go.ChangeAt Go.RowKit
open Go.Proofs.YtimnbcblejcmcaaW.PrintWords Go.Proofs.YtimnbcblejcmcaaW.PrintLast Go.Proofs.Ytimnbcblejcmcaa
open Go.ChangeMaps (open_string shut_string)
set_option linter.unusedVariables false
theorem own : ownKnob Try.prog.godebug = none := by kernel_rfl
theorem laidOut : laidOutB Try.prog = true := by kernel_rfl
def IsRow (k : IntKind) (w : World) (a : Option Addr) (len cap : Nat) (zs : List Int) : Prop :=
  (a = none ∧ len = 0 ∧ cap = 0 ∧ zs = []) ∨
  ∃ x, a = some x ∧ len ≤ cap ∧ cap ≤ maxLen ∧ zs.length = cap ∧ (∀ i, i < zs.length → w.cell? (x.add i) = some (.int k (zs.getD i 0))) ∧ ∀ n ∈ zs, (Lit.int k n).wf = true
set_option linter.unusedSimpArgs false
theorem read_9 {H : Type} {enc : TypeId × Value → H} {W : World} (fuel : Nat) (cs : List Value) (x : DataW H × List MemPlace) (h : DataW.trod enc Try.prog W 0 (fun _ => true) true fuel 9 cs = some x) : ∃ n : ByteArray, cs = [.string n] ∧ n.size ≤ maxLen := Read.str Try.underlying9 h
theorem read_40 {H : Type} {enc : TypeId × Value → H} {W : World} (fuel : Nat) (cs : List Value) (x : DataW H × List MemPlace) (h : DataW.trod enc Try.prog W 0 (fun _ => true) true fuel 40 cs = some x) : ∃ (A : Option Addr) (c : Nat) (l : List ByteArray), cs = [.slice A l.length c] ∧ l.length ≤ c ∧ Kd.C Kd.string W A l.length l ∧ (l.length ≤ maxLen ∧ ∀ y0_ ∈ l, y0_.size ≤ maxLen) := Read.slice Kd.string (fun y_ => y_.size ≤ maxLen) Try.underlying40 (by kernel_rfl) (fun fuel cs x h => by obtain ⟨n, rfl, w⟩ := read_9 fuel cs x h; exact ⟨n, rfl, w⟩) h
set_option maxRecDepth 100000 in
theorem lifted (os : Os) (started : os.Started) (H : Type) (enc : TypeId × Value → H) :
    ReturnsInHanded {} Try.checked os 7 .any (Rows.numRowsSpec.pre6 enc Try.prog Try.f7 Rows.numRowsRow.domain false) (Rows.numRowsSpec.post enc Try.prog Try.f7 false true false false) := by
  refine returnsInHanded_of_change_sized (C := Try.checked) own started (by kernel_rfl) Try.func7
    (ChangeSpec.witness6 (enc := enc) (C := Try.checked) false ⟨#[], #[.slice none 0 0], []⟩ 8 (by kernel_rfl) (by kernel_rfl) (by kernel_rfl) (by kernel_rfl)) ?_
  intro W base args ds gs before hval0 hW hcnd hsz0 _
  have hsz : (DataW.weightsEach Try.prog (Try.f7.params.toList ++ Rows.numRowsSpec.plain.varTypes Try.prog) (ds ++ gs)).all (· ≤ reachBytes) = true := hsz0
  have hval : ∀ (j : Nat) t v, Try.f7.params[j]? = some t → args[j]? = some v → Value.okWide Try.prog W .any base t v := hval0
  have hW' := hW
  obtain ⟨p, q, hA0, hV, rfl, hfz, hnd⟩ := hW
  have hA : DataW.TrodAll enc Try.prog W 0 (fun _ => true) true Try.f7.params.toList args.toList ds p := hA0
  rw [Try.params7] at hA hval hsz
  obtain ⟨v0, vs0, d0, ds0, p0, q0, hargs, rfl, rfl, h0, r0⟩ := trodAll_cons hA
  obtain ⟨rfl, rfl, rfl⟩ := trodAll_nil r0
  obtain rfl : args = #[v0] := by cases args; simp_all
  obtain ⟨rfl, rfl⟩ := trodVars_none hV
  have k0 := h0
  have lt0 : ∀ x ∈ p0, x.block < W.heap.size := by obtain ⟨m, hm⟩ := k0; exact DataW.trod_lt m _ _ _ hm
  obtain ⟨a0, len0, cap0, rfl⟩ := okWide_slice Try.underlying40 (hval 0 40 v0 rfl rfl)
  obtain ⟨z0A, z0c, z0l, he0, x0_0, x0_1, x0_2⟩ : ∃ (z0A : Option Addr) (z0c : Nat) (z0l : List ByteArray), (.slice a0 len0 cap0 : Value).cells.toList = [.slice z0A z0l.length z0c] ∧ z0l.length ≤ z0c ∧ Kd.C Kd.string W z0A z0l.length z0l ∧ (z0l.length ≤ maxLen ∧ ∀ y0_ ∈ z0l, y0_.size ≤ maxLen) := by obtain ⟨fuel, hf⟩ := h0; exact read_40 fuel _ _ hf
  obtain ⟨ea0, el0, ec0⟩ : a0 = z0A ∧ len0 = z0l.length ∧ cap0 = z0c := by simpa [Value.cells] using he0
  obtain rfl := ea0.symm
  obtain rfl := el0
  obtain rfl := ec0.symm
  clear hA0 hval0 hsz0 hsz
  refine (P.cambiumlaw01_NumRows.walk Pure.NumRows z0A z0c z0l W x0_1 x0_0 x0_2).mono fun e W' ⟨he, bel⟩ => ?_
  subst he
  exact ⟨_, rfl, _, _, _, [], _, [], hW', trodAll_mk1 (shut_bool Try.underlying4 _), (trodAll_cons_mk (Below.trod laidOut (by kernel_rfl) (of_decide_eq_true (by kernel_rfl)) k0 bel lt0) trodAll_mk0), rfl, bel.frame _, fun h => by cases h⟩
theorem over : Rows.numRowsRow.holds Try.pinned (OpenSpec.ofChange Rows.numRowsSpec) :=
  OpenClaim.holds_of_wide 7 Try.f7 rfl rfl rfl rfl rfl rfl rfl ⟨rfl, rfl, rfl, rfl, rfl⟩ rfl rfl rfl rfl rfl (by kernel_rfl) Try.func7 (by kernel_rfl)
    (of_decide_eq_true (by kernel_rfl)) (by unfold Func.isWrapper; first | (rw [if_pos (by decide +kernel)]; kernel_rfl) | (rw [if_neg (by decide +kernel)]; exact ⟨rfl, rfl⟩))
    (fun os started H enc _ => lifted os started H enc)
theorem proved : Rows.NumRowsSaid := over
#print axioms proved
end Go.Proofs.Ytimnbcblejcmcaa.numRows
namespace Go.Proofs.Ytimnbcblejcmcaa
/-- The row, under a short name, for the claim. -/
theorem numRows_holds : Rows.NumRowsSaid := numRows.proved
end Go.Proofs.Ytimnbcblejcmcaa
