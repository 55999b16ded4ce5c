/- The law StreamPaths: for every input its Go function answers true, and each argument reads afterwards as it read before. No condition. -/
import Derived.Test.YtgklipfeheohkaaDoorRows
import Derived.Test.YtgklipfeheohkaaDoorPathsW
import Derived.WalkKit
import Derived.ProofKit
import Derived.OpenShut
import Derived.ShutString
import Derived.ChangeOld
import Derived.Below
import Derived.SizedLaws
import Derived.Test.YtgklipfeheohkaaDoorWSized
import Derived.Test.YtgklipfeheohkaaDoorRead
import Derived.Test.YtgklipfeheohkaaDoorTie
import Derived.Test.YtgklipfeheohkaaDoorCards
import Derived.Test.YtgklipfeheohkaaDoorLaid
import Derived.Test.YtgklipfeheohkaaDoorBulk
import Derived.SevenTiedAt
import Derived.Lay
import Derived.LaidOnce
import Derived.Deep.DeepHandedRow
import Derived.Lib.LaidTab
namespace Go.Proofs.YtgklipfeheohkaaDoor.streamPaths
open Go.ChangeShapes Go.WideShapes Go.ChangeAt Go.RowKit
open Go.Proofs.YtgklipfeheohkaaDoorW.PrintWords Go.Proofs.YtgklipfeheohkaaDoorW.PrintLast Go.Proofs.YtgklipfeheohkaaDoor Go.Proofs.YtgklipfeheohkaaDoor.P
open Go.ChangeMaps (open_string shut_string)
set_option linter.unusedVariables false
set_option linter.unusedSimpArgs false
theorem own : ownKnob Tryd.prog.godebug = none := by kernel_rfl
theorem laidOut : laidOutB Tryd.prog = true := by kernel_rfl
theorem read_9 {H : Type} {enc : TypeId × Value → H} {W : World} (fuel : Nat) (cs : List Value) (x : DataW H × List MemPlace) (h : DataW.trod enc Tryd.prog W 0 (fun _ => true) true fuel 9 cs = some x) : ∃ (n : ByteArray), cs = [.string n] ∧ n.size ≤ maxLen := Read.str Tryd.underlying9 h
theorem read_22 {H : Type} {enc : TypeId × Value → H} {W : World} (fuel : Nat) (cs : List Value) (x : DataW H × List MemPlace) (h : DataW.trod enc Tryd.prog W 0 (fun _ => true) true fuel 22 cs = some x) : ∃ (A : Option Addr) (c : Nat) (l : (List ByteArray)), cs = [.slice A l.length c] ∧ l.length ≤ c ∧ Kd.C Kd.string W A l.length l ∧ (l.length ≤ maxLen ∧ ∀ y0_ ∈ l, y0_.size ≤ maxLen) := Read.slice Kd.string (fun y_ => y_.size ≤ maxLen) Tryd.underlying22 (by kernel_rfl) (fun fuel cs x h => by obtain ⟨n, rfl, q0⟩ := read_9 fuel cs x h; exact ⟨n, rfl, q0⟩) h
set_option maxRecDepth 100000 in
theorem laid_met (os : Os) : laidMet Tryd.prog Rows.streamPathsUptoRow.laid ((World.laidAll Tryd.prog os Rows.streamPathsUptoRow.laid).forCall (fun _ _ => 0) ⟨#[], #[.string ByteArray.empty, .slice none 0 0], []⟩).memory := laidMet_laidAll _ (by kernel_rfl) (by kernel_rfl)
theorem reads (os : Os) {H : Type} (enc : TypeId × Value → H) : ∃ places, DataW.whole enc Tryd.prog ((World.laidAll Tryd.prog os Rows.streamPathsUptoRow.laid).forCall (fun _ _ => 0) ⟨#[], #[.string ByteArray.empty, .slice none 0 0], []⟩).memory Tryd.f3.params.toList Rows.streamPathsSpec.vars false (#[.string ByteArray.empty, .slice none 0 0] : Array Value).toList 8 = some ([.lit (.string []), .nil], [], places) := ⟨[], by kernel_rfl⟩
set_option maxRecDepth 100000 in
theorem lifted (os : Os) (started : os.Started) (H : Type) (enc : TypeId × Value → H) (F : Stop.Interp) :
    ReturnsInHanded {} Tryd.checked os 3 .any ((Rows.OpenSpec.upto Rows.streamPathsSpec).preRow enc Tryd.prog Tryd.f3 Rows.streamPathsUptoRow.domain false Rows.streamPathsUptoRow.laid) (((Rows.OpenSpec.upto Rows.streamPathsSpec).at F).post enc Tryd.prog Tryd.f3 false true false false) := by
  obtain ⟨places, hx⟩ := reads os enc
  refine returnsInHanded_of_row (C := Tryd.checked) (s := Rows.OpenSpec.upto Rows.streamPathsSpec) own started (by kernel_rfl) Tryd.func3
    (witness_row_at (enc := enc) (C := Tryd.checked) false (World.laidAll Tryd.prog os Rows.streamPathsUptoRow.laid) #[.string ByteArray.empty, .slice none 0 0] (World.laidAll_os _ _ _) (by kernel_rfl) (by kernel_rfl) (by kernel_rfl)
      (OpenSpec.preRow_of_cond 8 hx (by kernel_rfl) (fun k hk => by cases hk; kernel_rfl) (by kernel_rfl) (laid_met os))) ?_
  intro W base args ds gs before hval0 hW hcnd hk0 hsz0 hL hS _
  have hk := hk0 _ rfl
  have hsz : (DataW.weightsEach Tryd.prog (Tryd.f3.params.toList ++ Rows.streamPathsSpec.plain.varTypes Tryd.prog) (ds ++ gs)).all (· ≤ reachBytes) = true := hsz0
  have hval : ∀ (j : Nat) t v, Tryd.f3.params[j]? = some t → args[j]? = some v → Value.okWide Tryd.prog W .any base t v := hval0
  have hW' := hW
  obtain ⟨p, q, hA0, hV, rfl, hfz, hnd⟩ := hW
  have hA : DataW.TrodAll enc Tryd.prog W 0 (fun _ => true) true Tryd.f3.params.toList args.toList ds p := hA0
  rw [Tryd.params3] at hA hval hsz
  obtain ⟨v0, vs0, d0, ds0, p0, q0, hargs, rfl, rfl, h0, r0⟩ := trodAll_cons hA
  obtain ⟨v1, vs1, d1, ds1, p1, q1, rfl, rfl, rfl, h1, r1⟩ := trodAll_cons r0
  obtain ⟨rfl, rfl, rfl⟩ := trodAll_nil r1
  obtain rfl : args = #[v0, v1] := by cases args; simp_all
  obtain ⟨rfl, rfl⟩ := trodVars_none hV
  have k0 := h0
  have lt0 : ∀ x ∈ p0, x.block < W.heap.size := by obtain ⟨m, hm⟩ := k0; exact DataW.trod_lt m _ _ _ hm
  obtain ⟨a0, rfl⟩ := okWide_string Tryd.underlying9 (hval 0 9 v0 rfl rfl)
  obtain ⟨z0n, he0, x0_0⟩ : ∃ (z0n : ByteArray), (.string a0 : Value).cells.toList = [.string z0n] ∧ z0n.size ≤ maxLen := by obtain ⟨fuel, hf⟩ := h0; exact read_9 fuel _ _ hf
  obtain rfl := (show a0 = z0n from by simpa [Value.cells] using he0).symm
  have k1 := h1
  have lt1 : ∀ x ∈ p1, x.block < W.heap.size := by obtain ⟨m, hm⟩ := k1; exact DataW.trod_lt m _ _ _ hm
  obtain ⟨a1, len1, cap1, rfl⟩ := okWide_slice Tryd.underlying22 (hval 1 22 v1 rfl rfl)
  obtain ⟨z1A, z1c, z1l, he1, x1_0, x1_1, x1_2⟩ : ∃ (z1A : Option Addr) (z1c : Nat) (z1l : (List ByteArray)), (.slice a1 len1 cap1 : Value).cells.toList = [.slice z1A z1l.length z1c] ∧ z1l.length ≤ z1c ∧ Kd.C Kd.string W z1A z1l.length z1l ∧ (z1l.length ≤ maxLen ∧ ∀ y0_ ∈ z1l, y0_.size ≤ maxLen) := by obtain ⟨fuel, hf⟩ := h1; exact read_22 fuel _ _ hf
  obtain ⟨ea1, el1, ec1⟩ : a1 = z1A ∧ len1 = z1l.length ∧ cap1 = z1c := by simpa [Value.cells] using he1
  obtain rfl := ea1.symm
  obtain rfl := el1
  obtain rfl := ec1.symm
  have hb0 : z0n.size ≤ Rows.uptoBulk d0 := by obtain ⟨m, hm⟩ := k0; exact Bulk.str Tryd.underlying9 hm
  have hb1 : Bulk.total z1l ≤ Rows.uptoBulk d1 := by obtain ⟨m, hm⟩ := k1; exact Bulk.strs Tryd.underlying22 Tryd.underlying9 (by kernel_rfl) x1_0 hm x1_1
  have hU : z0n.size + Bulk.total z1l ≤ 1048576 := by
    have h := of_decide_eq_true hk
    simp only [List.append_nil, Rows.uptoBulkAll] at h
    omega
  clear hk hk0
  clear hA0 hval0 hsz0 hsz
  refine (StreamPaths_law z0n z1A z1c z1l W ⟨x0_0⟩ ⟨⟨x1_0, x1_1, x1_2⟩⟩ ⟨hL⟩ ⟨hS⟩ ⟨hU⟩).mono fun e W' ⟨he, bel⟩ => ?_
  subst he
  exact ⟨_, rfl, _, _, _, [], _, [], hW', trodAll_mk1 (shut_bool Tryd.underlying4 _), (trodAll_cons_mk (Below.trod laidOut (by kernel_rfl) (of_decide_eq_true (by kernel_rfl)) k0 bel lt0) (trodAll_cons_mk (Below.trod laidOut (by kernel_rfl) (of_decide_eq_true (by kernel_rfl)) k1 bel lt1) trodAll_mk0)), rfl, bel.frame _, fun h => by cases h⟩
theorem over : Rows.streamPathsUptoRow.holds Tryd.pinned (Rows.OpenSpec.upto Rows.streamPathsSpec) :=
  OpenClaim.holds_of_cond 3 Tryd.f3 rfl rfl rfl rfl rfl rfl rfl ⟨rfl, rfl, rfl, rfl, rfl⟩ rfl rfl rfl rfl rfl (by kernel_rfl) Tryd.func3 (by kernel_rfl)
    (of_decide_eq_true (by kernel_rfl)) (by unfold Func.isWrapper; first | (rw [if_pos (by decide +kernel)]; kernel_rfl) | (rw [if_neg (by decide +kernel)]; exact ⟨rfl, rfl⟩))
    (fun os started H enc _ F => by rw [OpenClaim.pre_eq_preRow]; exact lifted os started H enc F)
end Go.Proofs.YtgklipfeheohkaaDoor.streamPaths
namespace Go.Proofs.YtgklipfeheohkaaDoor
/-- The row, under a short name, for the claim. -/
theorem streamPaths_holds : Rows.StreamPathsUptoCardSaid :=
  Claim7.holds_tied_plain_at .later [] [.data, .pinned] true (true, "34a8e05e13f2c2a87ca0598166ddaa5ea248cc132e21f42f556cc79c55d3b36b") false streamPaths.over (fun _ h => by cases h) (by kernel_rfl) (fun _ h => by cases h) streamPathsUpto_row_tie rfl ⟨rfl, rfl⟩ (by kernel_rfl) rfl
    (fun g fn hf hfn => by
      obtain rfl : g = 3 := Option.some.inj ((show Tryd.prog.funcNamed "cambium/cambiumlaw19.StreamPaths" = some 3 by kernel_rfl).symm.trans hf) |>.symm
      obtain rfl : fn = Tryd.f3 := (Option.some.inj (Tryd.func3.symm.trans hfn)).symm
      exact ⟨by kernel_rfl, fun j t ht => by
        rw [Tryd.params3] at ht
        have hm : t ∈ [9, 22] := by simpa using Array.mem_of_getElem? ht
        have hall : ([9, 22].all fun u => !Tryd.prog.wantsStandIn u) = true := by kernel_rfl
        exact (show Tryd.prog.wantsStandIn t = false by simpa using List.all_eq_true.1 hall t hm)⟩)
    (by kernel_rfl)
#print axioms streamPaths_holds
end Go.Proofs.YtgklipfeheohkaaDoor
