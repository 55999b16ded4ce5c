/- The law NameJoins: for every input its Go function answers true, and each argument reads afterwards as it read before. No condition. -/
import Derived.Test.YtafgfaimenccdaaDoorRows
import Derived.Test.YtafgfaimenccdaaDoorJoinsW
import Derived.WalkKit
import Derived.ProofKit
import Derived.OpenShut
import Derived.ShutString
import Derived.ChangeOld
import Derived.Below
import Derived.SizedLaws
import Derived.Test.YtafgfaimenccdaaDoorWSized
import Derived.Test.YtafgfaimenccdaaDoorRead
import Derived.Test.YtafgfaimenccdaaDoorTie
import Derived.Test.YtafgfaimenccdaaDoorCards
import Derived.Test.YtafgfaimenccdaaDoorLaid
import Derived.Test.YtafgfaimenccdaaDoorBulk
import Derived.SevenTiedAt
import Derived.Lay
import Derived.LaidOnce
import Derived.Deep.DeepHandedRow
import Derived.Lib.LaidTab
namespace Go.Proofs.YtafgfaimenccdaaDoor.nameJoins
open Go.ChangeShapes Go.WideShapes Go.ChangeAt Go.RowKit
open Go.Proofs.YtafgfaimenccdaaDoorW.PrintWords Go.Proofs.YtafgfaimenccdaaDoorW.PrintLast Go.Proofs.YtafgfaimenccdaaDoor Go.Proofs.YtafgfaimenccdaaDoor.P
open Go.ChangeMaps (open_string shut_string)
set_option linter.unusedVariables false
set_option linter.unusedSimpArgs false
theorem own : ownKnob Tryd.prog.godebug = none := by kernel_rfl
theorem laidOut : laidOutB Tryd.prog = true := by kernel_rfl
theorem read_9 {H : Type} {enc : TypeId × Value → H} {W : World} (fuel : Nat) (cs : List Value) (x : DataW H × List MemPlace) (h : DataW.trod enc Tryd.prog W 0 (fun _ => true) true fuel 9 cs = some x) : ∃ (n : ByteArray), cs = [.string n] ∧ n.size ≤ maxLen := Read.str Tryd.underlying9 h
theorem read_26 {H : Type} {enc : TypeId × Value → H} {W : World} (fuel : Nat) (cs : List Value) (x : DataW H × List MemPlace) (h : DataW.trod enc Tryd.prog W 0 (fun _ => true) true fuel 26 cs = some x) : ∃ (A : Option Addr) (c : Nat) (l : (List ByteArray)), cs = [.slice A l.length c] ∧ l.length ≤ c ∧ Kd.C Kd.string W A l.length l ∧ (l.length ≤ maxLen ∧ ∀ y0_ ∈ l, y0_.size ≤ maxLen) := Read.slice Kd.string (fun y_ => y_.size ≤ maxLen) Tryd.underlying26 (by kernel_rfl) (fun fuel cs x h => by obtain ⟨n, rfl, q0⟩ := read_9 fuel cs x h; exact ⟨n, rfl, q0⟩) h
set_option maxRecDepth 100000 in
theorem laid_met (os : Os) : laidMet Tryd.prog Rows.nameJoinsUptoRow.laid ((World.laidAll Tryd.prog os Rows.nameJoinsUptoRow.laid).forCall (fun _ _ => 0) ⟨#[], #[.string ByteArray.empty, .slice none 0 0, .slice none 0 0], []⟩).memory := laidMet_laidAll _ (by kernel_rfl) (by kernel_rfl)
theorem reads (os : Os) {H : Type} (enc : TypeId × Value → H) : ∃ places, DataW.whole enc Tryd.prog ((World.laidAll Tryd.prog os Rows.nameJoinsUptoRow.laid).forCall (fun _ _ => 0) ⟨#[], #[.string ByteArray.empty, .slice none 0 0, .slice none 0 0], []⟩).memory Tryd.f9.params.toList Rows.nameJoinsSpec.vars false (#[.string ByteArray.empty, .slice none 0 0, .slice none 0 0] : Array Value).toList 8 = some ([.lit (.string []), .nil, .nil], [], places) := ⟨[], by kernel_rfl⟩
set_option maxRecDepth 100000 in
theorem lifted (os : Os) (started : os.Started) (H : Type) (enc : TypeId × Value → H) (F : Stop.Interp) :
    ReturnsInHanded {} Tryd.checked os 9 .any ((Rows.OpenSpec.upto Rows.nameJoinsSpec).preRow enc Tryd.prog Tryd.f9 Rows.nameJoinsUptoRow.domain false Rows.nameJoinsUptoRow.laid) (((Rows.OpenSpec.upto Rows.nameJoinsSpec).at F).post enc Tryd.prog Tryd.f9 false true false false) := by
  obtain ⟨places, hx⟩ := reads os enc
  refine returnsInHanded_of_row (C := Tryd.checked) (s := Rows.OpenSpec.upto Rows.nameJoinsSpec) own started (by kernel_rfl) Tryd.func9
    (witness_row_at (enc := enc) (C := Tryd.checked) false (World.laidAll Tryd.prog os Rows.nameJoinsUptoRow.laid) #[.string ByteArray.empty, .slice none 0 0, .slice none 0 0] (World.laidAll_os _ _ _) (by kernel_rfl) (by kernel_rfl) (by kernel_rfl)
      (OpenSpec.preRow_of_cond 8 hx (by kernel_rfl) (fun k hk => by cases hk; kernel_rfl) (by kernel_rfl) (laid_met os))) ?_
  intro W base args ds gs before hval0 hW hcnd hk0 hsz0 hL hS _
  have hk := hk0 _ rfl
  have hsz : (DataW.weightsEach Tryd.prog (Tryd.f9.params.toList ++ Rows.nameJoinsSpec.plain.varTypes Tryd.prog) (ds ++ gs)).all (· ≤ reachBytes) = true := hsz0
  have hval : ∀ (j : Nat) t v, Tryd.f9.params[j]? = some t → args[j]? = some v → Value.okWide Tryd.prog W .any base t v := hval0
  have hW' := hW
  obtain ⟨p, q, hA0, hV, rfl, hfz, hnd⟩ := hW
  have hA : DataW.TrodAll enc Tryd.prog W 0 (fun _ => true) true Tryd.f9.params.toList args.toList ds p := hA0
  rw [Tryd.params9] at hA hval hsz
  obtain ⟨v0, vs0, d0, ds0, p0, q0, hargs, rfl, rfl, h0, r0⟩ := trodAll_cons hA
  obtain ⟨v1, vs1, d1, ds1, p1, q1, rfl, rfl, rfl, h1, r1⟩ := trodAll_cons r0
  obtain ⟨v2, vs2, d2, ds2, p2, q2, rfl, rfl, rfl, h2, r2⟩ := trodAll_cons r1
  obtain ⟨rfl, rfl, rfl⟩ := trodAll_nil r2
  obtain rfl : args = #[v0, v1, v2] := by cases args; simp_all
  obtain ⟨rfl, rfl⟩ := trodVars_none hV
  have k0 := h0
  have lt0 : ∀ x ∈ p0, x.block < W.heap.size := by obtain ⟨m, hm⟩ := k0; exact DataW.trod_lt m _ _ _ hm
  obtain ⟨a0, rfl⟩ := okWide_string Tryd.underlying9 (hval 0 9 v0 rfl rfl)
  obtain ⟨z0n, he0, x0_0⟩ : ∃ (z0n : ByteArray), (.string a0 : Value).cells.toList = [.string z0n] ∧ z0n.size ≤ maxLen := by obtain ⟨fuel, hf⟩ := h0; exact read_9 fuel _ _ hf
  obtain rfl := (show a0 = z0n from by simpa [Value.cells] using he0).symm
  have k1 := h1
  have lt1 : ∀ x ∈ p1, x.block < W.heap.size := by obtain ⟨m, hm⟩ := k1; exact DataW.trod_lt m _ _ _ hm
  obtain ⟨a1, len1, cap1, rfl⟩ := okWide_slice Tryd.underlying26 (hval 1 26 v1 rfl rfl)
  obtain ⟨z1A, z1c, z1l, he1, x1_0, x1_1, x1_2⟩ : ∃ (z1A : Option Addr) (z1c : Nat) (z1l : (List ByteArray)), (.slice a1 len1 cap1 : Value).cells.toList = [.slice z1A z1l.length z1c] ∧ z1l.length ≤ z1c ∧ Kd.C Kd.string W z1A z1l.length z1l ∧ (z1l.length ≤ maxLen ∧ ∀ y0_ ∈ z1l, y0_.size ≤ maxLen) := by obtain ⟨fuel, hf⟩ := h1; exact read_26 fuel _ _ hf
  obtain ⟨ea1, el1, ec1⟩ : a1 = z1A ∧ len1 = z1l.length ∧ cap1 = z1c := by simpa [Value.cells] using he1
  obtain rfl := ea1.symm
  obtain rfl := el1
  obtain rfl := ec1.symm
  have k2 := h2
  have lt2 : ∀ x ∈ p2, x.block < W.heap.size := by obtain ⟨m, hm⟩ := k2; exact DataW.trod_lt m _ _ _ hm
  obtain ⟨a2, len2, cap2, rfl⟩ := okWide_slice Tryd.underlying26 (hval 2 26 v2 rfl rfl)
  obtain ⟨z2A, z2c, z2l, he2, x2_0, x2_1, x2_2⟩ : ∃ (z2A : Option Addr) (z2c : Nat) (z2l : (List ByteArray)), (.slice a2 len2 cap2 : Value).cells.toList = [.slice z2A z2l.length z2c] ∧ z2l.length ≤ z2c ∧ Kd.C Kd.string W z2A z2l.length z2l ∧ (z2l.length ≤ maxLen ∧ ∀ y0_ ∈ z2l, y0_.size ≤ maxLen) := by obtain ⟨fuel, hf⟩ := h2; exact read_26 fuel _ _ hf
  obtain ⟨ea2, el2, ec2⟩ : a2 = z2A ∧ len2 = z2l.length ∧ cap2 = z2c := by simpa [Value.cells] using he2
  obtain rfl := ea2.symm
  obtain rfl := el2
  obtain rfl := ec2.symm
  have hb0 : z0n.size ≤ Rows.uptoBulk d0 := by obtain ⟨m, hm⟩ := k0; exact Bulk.str Tryd.underlying9 hm
  have hb1 : Bulk.total z1l ≤ Rows.uptoBulk d1 := by obtain ⟨m, hm⟩ := k1; exact Bulk.strs Tryd.underlying26 Tryd.underlying9 (by kernel_rfl) x1_0 hm x1_1
  have hb2 : Bulk.total z2l ≤ Rows.uptoBulk d2 := by obtain ⟨m, hm⟩ := k2; exact Bulk.strs Tryd.underlying26 Tryd.underlying9 (by kernel_rfl) x2_0 hm x2_1
  have hU : z0n.size + Bulk.total z1l + Bulk.total z2l ≤ 1048576 := by
    have h := of_decide_eq_true hk
    simp only [List.append_nil, Rows.uptoBulkAll] at h
    omega
  clear hk hk0
  clear hA0 hval0 hsz0 hsz
  refine (NameJoins_law z0n z1A z1c z1l z2A z2c z2l W ⟨x0_0⟩ ⟨⟨x1_0, x1_1, x1_2⟩⟩ ⟨⟨x2_0, x2_1, x2_2⟩⟩ ⟨hL⟩ ⟨hS⟩ ⟨hU⟩).mono fun e W' ⟨he, bel⟩ => ?_
  subst he
  exact ⟨_, rfl, _, _, _, [], _, [], hW', trodAll_mk1 (shut_bool Tryd.underlying4 _), (trodAll_cons_mk (Below.trod laidOut (by kernel_rfl) (of_decide_eq_true (by kernel_rfl)) k0 bel lt0) (trodAll_cons_mk (Below.trod laidOut (by kernel_rfl) (of_decide_eq_true (by kernel_rfl)) k1 bel lt1) (trodAll_cons_mk (Below.trod laidOut (by kernel_rfl) (of_decide_eq_true (by kernel_rfl)) k2 bel lt2) trodAll_mk0))), rfl, bel.frame _, fun h => by cases h⟩
theorem over : Rows.nameJoinsUptoRow.holds Tryd.pinned (Rows.OpenSpec.upto Rows.nameJoinsSpec) :=
  OpenClaim.holds_of_cond 9 Tryd.f9 rfl rfl rfl rfl rfl rfl rfl ⟨rfl, rfl, rfl, rfl, rfl⟩ rfl rfl rfl rfl rfl (by kernel_rfl) Tryd.func9 (by kernel_rfl)
    (of_decide_eq_true (by kernel_rfl)) (by unfold Func.isWrapper; first | (rw [if_pos (by decide +kernel)]; kernel_rfl) | (rw [if_neg (by decide +kernel)]; exact ⟨rfl, rfl⟩))
    (fun os started H enc _ F => by rw [OpenClaim.pre_eq_preRow]; exact lifted os started H enc F)
end Go.Proofs.YtafgfaimenccdaaDoor.nameJoins
namespace Go.Proofs.YtafgfaimenccdaaDoor
/-- The row, under a short name, for the claim. -/
theorem nameJoins_holds : Rows.NameJoinsUptoCardSaid :=
  Claim7.holds_tied_plain_at .later [] [.data, .pinned] true (true, "9b04d4fc1353bda3d85d32396c3c9d96a5ad94389e20b82b0d59d61714cb13bb") false nameJoins.over (fun _ h => by cases h) (by kernel_rfl) (fun _ h => by cases h) nameJoinsUpto_row_tie rfl ⟨rfl, rfl⟩ (by kernel_rfl) rfl
    (fun g fn hf hfn => by
      obtain rfl : g = 9 := Option.some.inj ((show Tryd.prog.funcNamed "cambium/cambiumlaw14.NameJoins" = some 9 by kernel_rfl).symm.trans hf) |>.symm
      obtain rfl : fn = Tryd.f9 := (Option.some.inj (Tryd.func9.symm.trans hfn)).symm
      exact ⟨by kernel_rfl, fun j t ht => by
        rw [Tryd.params9] at ht
        have hm : t ∈ [9, 26, 26] := by simpa using Array.mem_of_getElem? ht
        have hall : ([9, 26, 26].all fun u => !Tryd.prog.wantsStandIn u) = true := by kernel_rfl
        exact (show Tryd.prog.wantsStandIn t = false by simpa using List.all_eq_true.1 hall t hm)⟩)
    (by kernel_rfl)
#print axioms nameJoins_holds
end Go.Proofs.YtafgfaimenccdaaDoor
