import Derived.Test.YtgklipfeheohkaaDoorRows
import Derived.Test.YtgklipfeheohkaaDoorTakesW
import Derived.WalkKit
import Derived.ProofKit
import Derived.OpenShut
import Derived.ShutString
import Derived.ChangeOld
import Derived.Below
import Derived.SizedLaws
import Derived.ChangeSlices
import Derived.Test.YtgklipfeheohkaaDoorRead
import Derived.Test.YtgklipfeheohkaaDoorTie
import Derived.Test.YtgklipfeheohkaaDoorCards
import Derived.Test.YtgklipfeheohkaaDoorLaid
import Derived.SevenTiedAt
import Derived.Lay
import Derived.LaidOnce
namespace Go.Proofs.YtgklipfeheohkaaDoor.streamTakes
open Go.ChangeShapes Go.WideShapes Go.ChangeAt Go.RowKit
open Go.Proofs.YtgklipfeheohkaaDoorW.PrintWords Go.Proofs.YtgklipfeheohkaaDoorW.PrintLast Go.Proofs.YtgklipfeheohkaaDoor Go.Proofs.YtgklipfeheohkaaDoor.P
open Go.ChangeMaps (open_string shut_string)
set_option linter.unusedVariables false
set_option linter.unusedSimpArgs false
theorem own : ownKnob Tryd.prog.godebug = none := by kernel_rfl
theorem laidOut : laidOutB Tryd.prog = true := by kernel_rfl
theorem read_5 {H : Type} {enc : TypeId × Value → H} {W : World} (fuel : Nat) (cs : List Value) (x : DataW H × List MemPlace) (h : DataW.trod enc Tryd.prog W 0 (fun _ => true) true fuel 5 cs = some x) : ∃ (n : Int), cs = [.int .u8 n] ∧ (Lit.int .u8 n).wf = true := Read.int Tryd.underlying5 h
theorem read_35 {H : Type} {enc : TypeId × Value → H} {W : World} (fuel : Nat) (cs : List Value) (x : DataW H × List MemPlace) (h : DataW.trod enc Tryd.prog W 0 (fun _ => true) true fuel 35 cs = some x) : ∃ (A : Option Addr) (c : Nat) (l : (List Int)), cs = [.slice A l.length c] ∧ l.length ≤ c ∧ Kd.C (Kd.int .u8) W A l.length l ∧ (l.length ≤ maxLen ∧ ∀ y0_ ∈ l, (Lit.int .u8 y0_).wf = true) := Read.slice (Kd.int .u8) (fun y_ => (Lit.int .u8 y_).wf = true) Tryd.underlying35 (by kernel_rfl) (fun fuel cs x h => by obtain ⟨n, rfl, q0⟩ := read_5 fuel cs x h; exact ⟨n, rfl, q0⟩) h
set_option maxRecDepth 100000 in
theorem lifted (os : Os) (started : os.Started) (H : Type) (enc : TypeId × Value → H) :
    ReturnsInHanded {} Tryd.checked os 6 .any (fun w args => (Rows.streamTakesSpec.pre enc Tryd.prog Tryd.f6 [] false w args ∧ laidMetH Tryd.prog Rows.streamTakesRow.laid w) ∧ sizedMet enc Tryd.prog Tryd.f6 (OpenSpec.ofChange Rows.streamTakesSpec) false w args)
      (Rows.streamTakesSpec.post enc Tryd.prog Tryd.f6 false true false false) := by
  refine returnsInHanded_laid_shaped (C := Tryd.checked) (X := fun w _ => laidMetH Tryd.prog Rows.streamTakesRow.laid w) (fun _ _ _ hh h => h.of_heap hh) own started (by kernel_rfl) Tryd.func6
    (ChangeSpec.witness_shaped (enc := enc) (C := Tryd.checked) (os := os) (X := fun w _ => laidMetH Tryd.prog Rows.streamTakesRow.laid w) false (World.laidAll Tryd.prog os Rows.streamTakesRow.laid) #[.slice none 0 0] 8 (World.laidAll_os _ _ _)
      (World.shaped_of_ZipB (by kernel_rfl) (by kernel_rfl)) (by kernel_rfl) (by kernel_rfl) (by kernel_rfl)
      (by rw [MakeChecks.laidMetH_plain _ _ _ (by kernel_rfl)]; exact laidMet_laidAll _ (by kernel_rfl) (by kernel_rfl))) ?_
  intro W base args ds gs before hval0 hW hcnd hsz0 hL hS _
  have hsz : (DataW.weightsEach Tryd.prog (Tryd.f6.params.toList ++ Rows.streamTakesSpec.plain.varTypes Tryd.prog) (ds ++ gs)).all (· ≤ reachBytes) = true := hsz0
  have hval : ∀ (j : Nat) t v, Tryd.f6.params[j]? = some t → args[j]? = some v → Value.okWide Tryd.prog W .any base t v := hval0
  have hW' := hW
  obtain ⟨p, q, hA0, hV, rfl, hfz, hnd⟩ := hW
  have hA : DataW.TrodAll enc Tryd.prog W 0 (fun _ => true) true Tryd.f6.params.toList args.toList ds p := hA0
  rw [Tryd.params6] at hA hval hsz
  obtain ⟨v0, vs0, d0, ds0, p0, q0, hargs, rfl, rfl, h0, r0⟩ := trodAll_cons hA
  obtain ⟨rfl, rfl, rfl⟩ := trodAll_nil r0
  obtain rfl : args = #[v0] := by cases args; simp_all
  obtain ⟨rfl, rfl⟩ := trodVars_none hV
  have k0 := h0
  have lt0 : ∀ x ∈ p0, x.block < W.heap.size := by obtain ⟨m, hm⟩ := k0; exact DataW.trod_lt m _ _ _ hm
  obtain ⟨a0, len0, cap0, rfl⟩ := okWide_slice Tryd.underlying35 (hval 0 35 v0 rfl rfl)
  obtain ⟨z0A, z0c, z0l, he0, x0_0, x0_1, x0_2⟩ : ∃ (z0A : Option Addr) (z0c : Nat) (z0l : (List Int)), (.slice a0 len0 cap0 : Value).cells.toList = [.slice z0A z0l.length z0c] ∧ z0l.length ≤ z0c ∧ Kd.C (Kd.int .u8) W z0A z0l.length z0l ∧ (z0l.length ≤ maxLen ∧ ∀ y0_ ∈ z0l, (Lit.int .u8 y0_).wf = true) := by obtain ⟨fuel, hf⟩ := h0; exact read_35 fuel _ _ hf
  obtain ⟨ea0, el0, ec0⟩ : a0 = z0A ∧ len0 = z0l.length ∧ cap0 = z0c := by simpa [Value.cells] using he0
  obtain rfl := ea0.symm
  obtain rfl := el0
  obtain rfl := ec0.symm
  clear hA0 hval0 hsz0 hsz
  refine (StreamTakes_law z0A z0c z0l W ⟨⟨x0_0, x0_1, x0_2⟩⟩ ⟨hL⟩ ⟨hS⟩).mono fun e W' ⟨he, bel⟩ => ?_
  subst he
  exact ⟨_, rfl, _, _, _, [], _, [], hW', trodAll_mk1 (shut_bool Tryd.underlying4 _), (trodAll_cons_mk (Below.trod laidOut (by kernel_rfl) (of_decide_eq_true (by kernel_rfl)) k0 bel lt0) trodAll_mk0), rfl, bel.frame _, fun h => by cases h⟩
theorem over : Rows.streamTakesRow.holds Tryd.pinned (OpenSpec.ofChange Rows.streamTakesSpec) :=
  OpenClaim.holds_of_wide 6 Tryd.f6 rfl rfl rfl rfl rfl rfl rfl ⟨rfl, rfl, rfl, rfl, rfl⟩ rfl rfl rfl rfl rfl (by kernel_rfl) Tryd.func6 (by kernel_rfl)
    (of_decide_eq_true (by kernel_rfl)) (by unfold Func.isWrapper; first | (rw [if_pos (by decide +kernel)]; kernel_rfl) | (rw [if_neg (by decide +kernel)]; exact ⟨rfl, rfl⟩))
    (fun os started H enc _ => lifted os started H enc)
end Go.Proofs.YtgklipfeheohkaaDoor.streamTakes
namespace Go.Proofs.YtgklipfeheohkaaDoor
/-- The row, under a short name, for the claim. -/
theorem streamTakes_holds : Rows.StreamTakesCardSaid :=
  Claim7.holds_tied_plain_at .later [] [.data, .pinned] true (true, "34a8e05e13f2c2a87ca0598166ddaa5ea248cc132e21f42f556cc79c55d3b36b") false streamTakes.over (fun _ h => by cases h) (by kernel_rfl) (fun _ h => by cases h) streamTakes_row_tie rfl ⟨rfl, rfl⟩ (by kernel_rfl) rfl
    (fun g fn hf hfn => by
      obtain rfl : g = 6 := Option.some.inj ((show Tryd.prog.funcNamed "cambium/cambiumlaw19.StreamTakes" = some 6 by kernel_rfl).symm.trans hf) |>.symm
      obtain rfl : fn = Tryd.f6 := (Option.some.inj (Tryd.func6.symm.trans hfn)).symm
      exact ⟨by kernel_rfl, fun j t ht => by
        rw [Tryd.params6] at ht
        have hm : t ∈ [35] := by simpa using Array.mem_of_getElem? ht
        have hall : ([35].all fun u => !Tryd.prog.wantsStandIn u) = true := by kernel_rfl
        exact (show Tryd.prog.wantsStandIn t = false by simpa using List.all_eq_true.1 hall t hm)⟩)
    (by kernel_rfl)
#print axioms streamTakes_holds
end Go.Proofs.YtgklipfeheohkaaDoor
