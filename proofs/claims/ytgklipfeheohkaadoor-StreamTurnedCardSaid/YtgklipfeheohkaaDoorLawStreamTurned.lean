/- The law StreamTurned: for every input its Go function answers true, and each argument reads afterwards as it read before. No condition. -/
import Derived.Test.YtgklipfeheohkaaDoorRows
import Derived.Test.YtgklipfeheohkaaDoorTurnedW
import Derived.WalkKit
import Derived.ProofKit
import Derived.OpenShut
import Derived.ShutString
import Derived.ChangeOld
import Derived.Below
import Derived.SizedLaws
import Derived.Test.YtgklipfeheohkaaDoorWSized
import Derived.Test.YtgklipfeheohkaaDoorRead
import Derived.Test.YtgklipfeheohkaaDoorTie
import Derived.Test.YtgklipfeheohkaaDoorCards
import Derived.Test.YtgklipfeheohkaaDoorLaid
import Derived.SevenTiedAt
import Derived.Lay
import Derived.LaidOnce
namespace Go.Proofs.YtgklipfeheohkaaDoor.streamTurned
open Go.ChangeShapes Go.WideShapes Go.ChangeAt Go.RowKit
open Go.Proofs.YtgklipfeheohkaaDoorW.PrintWords Go.Proofs.YtgklipfeheohkaaDoorW.PrintLast Go.Proofs.YtgklipfeheohkaaDoor Go.Proofs.YtgklipfeheohkaaDoor.P
open Go.ChangeMaps (open_string shut_string)
set_option linter.unusedVariables false
set_option linter.unusedSimpArgs false
theorem own : ownKnob Tryd.prog.godebug = none := by kernel_rfl
theorem laidOut : laidOutB Tryd.prog = true := by kernel_rfl
theorem read_3 {H : Type} {enc : TypeId × Value → H} {W : World} (fuel : Nat) (cs : List Value) (x : DataW H × List MemPlace) (h : DataW.trod enc Tryd.prog W 0 (fun _ => true) true fuel 3 cs = some x) : ∃ (n : Int), cs = [.int .i64 n] ∧ (Lit.int .i64 n).wf = true := Read.int Tryd.underlying3 h
theorem read_9 {H : Type} {enc : TypeId × Value → H} {W : World} (fuel : Nat) (cs : List Value) (x : DataW H × List MemPlace) (h : DataW.trod enc Tryd.prog W 0 (fun _ => true) true fuel 9 cs = some x) : ∃ (n : ByteArray), cs = [.string n] ∧ n.size ≤ maxLen := Read.str Tryd.underlying9 h
theorem read_5 {H : Type} {enc : TypeId × Value → H} {W : World} (fuel : Nat) (cs : List Value) (x : DataW H × List MemPlace) (h : DataW.trod enc Tryd.prog W 0 (fun _ => true) true fuel 5 cs = some x) : ∃ (n : Int), cs = [.int .u8 n] ∧ (Lit.int .u8 n).wf = true := Read.int Tryd.underlying5 h
theorem read_35 {H : Type} {enc : TypeId × Value → H} {W : World} (fuel : Nat) (cs : List Value) (x : DataW H × List MemPlace) (h : DataW.trod enc Tryd.prog W 0 (fun _ => true) true fuel 35 cs = some x) : ∃ (A : Option Addr) (c : Nat) (l : (List Int)), cs = [.slice A l.length c] ∧ l.length ≤ c ∧ Kd.C (Kd.int .u8) W A l.length l ∧ (l.length ≤ maxLen ∧ ∀ y0_ ∈ l, (Lit.int .u8 y0_).wf = true) := Read.slice (Kd.int .u8) (fun y_ => (Lit.int .u8 y_).wf = true) Tryd.underlying35 (by kernel_rfl) (fun fuel cs x h => by obtain ⟨n, rfl, q0⟩ := read_5 fuel cs x h; exact ⟨n, rfl, q0⟩) h
set_option maxRecDepth 100000 in
theorem read_37 {H : Type} {enc : TypeId × Value → H} {W : World} (fuel : Nat) (cs : List Value) (x : DataW H × List MemPlace) (h : DataW.trod enc Tryd.prog W 0 (fun _ => true) true fuel 37 cs = some x) : ∃ (f0_n : Int) (f1_n : ByteArray) (f2_n : ByteArray) (f3_n : Int) (f4_A : Option Addr) (f4_c : Nat) (f4_l : (List Int)), cs = [.int .i64 f0_n, .string f1_n, .string f2_n, .int .i64 f3_n, .slice f4_A f4_l.length f4_c] ∧ (Lit.int .i64 f0_n).wf = true ∧ f1_n.size ≤ maxLen ∧ f2_n.size ≤ maxLen ∧ (Lit.int .i64 f3_n).wf = true ∧ f4_l.length ≤ f4_c ∧ Kd.C (Kd.int .u8) W f4_A f4_l.length f4_l ∧ (f4_l.length ≤ maxLen ∧ ∀ y0_ ∈ f4_l, (Lit.int .u8 y0_).wf = true) := by
  obtain ⟨hl, hf⟩ := Read.struct Tryd.underlying37 h
  rw [show Tryd.prog.cellsOf 37 = 5 from by kernel_rfl] at hl
  obtain ⟨c0, c1, c2, c3, c4, rfl⟩ : ∃ c0 c1 c2 c3 c4 : Value, cs = [c0, c1, c2, c3, c4] := by
    match cs, hl with
    | [c0, c1, c2, c3, c4], _ => exact ⟨c0, c1, c2, c3, c4, rfl⟩
  obtain ⟨m0, y0, g0⟩ := hf 0 _ rfl
  (try dsimp only at g0)
  rw [show Tryd.prog.cellsOf 3 = 1 from by kernel_rfl] at g0
  obtain ⟨f0_n, e0, p0_0⟩ := read_3 _ _ _ g0
  obtain ⟨rfl⟩ : c0 = .int .i64 f0_n := by simpa using e0
  obtain ⟨m1, y1, g1⟩ := hf 1 _ rfl
  (try dsimp only at g1)
  rw [show Tryd.prog.cellsOf 9 = 1 from by kernel_rfl] at g1
  obtain ⟨f1_n, e1, p1_0⟩ := read_9 _ _ _ g1
  obtain ⟨rfl⟩ : c1 = .string f1_n := by simpa using e1
  obtain ⟨m2, y2, g2⟩ := hf 2 _ rfl
  (try dsimp only at g2)
  rw [show Tryd.prog.cellsOf 9 = 1 from by kernel_rfl] at g2
  obtain ⟨f2_n, e2, p2_0⟩ := read_9 _ _ _ g2
  obtain ⟨rfl⟩ : c2 = .string f2_n := by simpa using e2
  obtain ⟨m3, y3, g3⟩ := hf 3 _ rfl
  (try dsimp only at g3)
  rw [show Tryd.prog.cellsOf 3 = 1 from by kernel_rfl] at g3
  obtain ⟨f3_n, e3, p3_0⟩ := read_3 _ _ _ g3
  obtain ⟨rfl⟩ : c3 = .int .i64 f3_n := by simpa using e3
  obtain ⟨m4, y4, g4⟩ := hf 4 _ rfl
  (try dsimp only at g4)
  rw [show Tryd.prog.cellsOf 35 = 1 from by kernel_rfl] at g4
  obtain ⟨f4_A, f4_c, f4_l, e4, p4_0, p4_1, p4_2⟩ := read_35 _ _ _ g4
  obtain ⟨rfl⟩ : c4 = .slice f4_A f4_l.length f4_c := by simpa using e4
  exact ⟨f0_n, f1_n, f2_n, f3_n, f4_A, f4_c, f4_l, rfl, p0_0, p1_0, p2_0, p3_0, p4_0, p4_1, p4_2⟩
theorem read_32 {H : Type} {enc : TypeId × Value → H} {W : World} (fuel : Nat) (cs : List Value) (x : DataW H × List MemPlace) (h : DataW.trod enc Tryd.prog W 0 (fun _ => true) true fuel 32 cs = some x) : ∃ (A : Option Addr) (c : Nat) (l : (List S37)), cs = [.slice A l.length c] ∧ l.length ≤ c ∧ Kd.C k37 W A l.length l ∧ (l.length ≤ maxLen ∧ ∀ y0_ ∈ l, ((Lit.int .i64 y0_.f0).wf = true ∧ y0_.f1.size ≤ maxLen ∧ y0_.f2.size ≤ maxLen ∧ (Lit.int .i64 y0_.f3).wf = true ∧ (y0_.f4.length ≤ maxLen ∧ ∀ y1_ ∈ y0_.f4, (Lit.int .u8 y1_).wf = true))) := Read.slice k37 (fun y_ => ((Lit.int .i64 y_.f0).wf = true ∧ y_.f1.size ≤ maxLen ∧ y_.f2.size ≤ maxLen ∧ (Lit.int .i64 y_.f3).wf = true ∧ (y_.f4.length ≤ maxLen ∧ ∀ y0_ ∈ y_.f4, (Lit.int .u8 y0_).wf = true))) Tryd.underlying32 (by kernel_rfl) (fun fuel cs x h => by obtain ⟨f0_n, f1_n, f2_n, f3_n, f4_A, f4_c, f4_l, rfl, q0, q1, q2, q3, q4, q5, q6⟩ := read_37 fuel cs x h; exact ⟨(⟨f0_n, f1_n, f2_n, f3_n, f4_l⟩ : S37), ⟨[.int .i64 f0_n], _, rfl, rfl, ⟨[.string f1_n], _, rfl, rfl, ⟨[.string f2_n], _, rfl, rfl, ⟨[.int .i64 f3_n], _, rfl, rfl, ⟨f4_A, f4_c, rfl, q4, q5⟩⟩⟩⟩⟩, ⟨q0, q1, q2, q3, q6⟩⟩) h
set_option maxRecDepth 100000 in
theorem lifted (os : Os) (started : os.Started) (H : Type) (enc : TypeId × Value → H) :
    ReturnsInHanded {} Tryd.checked os 8 .any (fun w args => (Rows.streamTurnedSpec.pre enc Tryd.prog Tryd.f8 [] false w args ∧ laidMetH Tryd.prog Rows.streamTurnedRow.laid w) ∧ sizedMet enc Tryd.prog Tryd.f8 (OpenSpec.ofChange Rows.streamTurnedSpec) false w args)
      (Rows.streamTurnedSpec.post enc Tryd.prog Tryd.f8 false true false false) := by
  refine returnsInHanded_laid_shaped (C := Tryd.checked) (X := fun w _ => laidMetH Tryd.prog Rows.streamTurnedRow.laid w) (fun _ _ _ hh h => h.of_heap hh) own started (by kernel_rfl) Tryd.func8
    (ChangeSpec.witness_shaped (enc := enc) (C := Tryd.checked) (os := os) (X := fun w _ => laidMetH Tryd.prog Rows.streamTurnedRow.laid w) false (World.laidAll Tryd.prog os Rows.streamTurnedRow.laid) #[.slice none 0 0, .int .i64 0, .int .u8 0] 8 (World.laidAll_os _ _ _)
      (World.shaped_of_ZipB (by kernel_rfl) (by kernel_rfl)) (by kernel_rfl) (by kernel_rfl) (by kernel_rfl)
      (by rw [MakeChecks.laidMetH_plain _ _ _ (by kernel_rfl)]; exact laidMet_laidAll _ (by kernel_rfl) (by kernel_rfl))) ?_
  intro W base args ds gs before hval0 hW hcnd hsz0 hL hS _
  have hsz : (DataW.weightsEach Tryd.prog (Tryd.f8.params.toList ++ Rows.streamTurnedSpec.plain.varTypes Tryd.prog) (ds ++ gs)).all (· ≤ reachBytes) = true := hsz0
  have hval : ∀ (j : Nat) t v, Tryd.f8.params[j]? = some t → args[j]? = some v → Value.okWide Tryd.prog W .any base t v := hval0
  have hW' := hW
  obtain ⟨p, q, hA0, hV, rfl, hfz, hnd⟩ := hW
  have hA : DataW.TrodAll enc Tryd.prog W 0 (fun _ => true) true Tryd.f8.params.toList args.toList ds p := hA0
  rw [Tryd.params8] at hA hval hsz
  obtain ⟨v0, vs0, d0, ds0, p0, q0, hargs, rfl, rfl, h0, r0⟩ := trodAll_cons hA
  obtain ⟨v1, vs1, d1, ds1, p1, q1, rfl, rfl, rfl, h1, r1⟩ := trodAll_cons r0
  obtain ⟨v2, vs2, d2, ds2, p2, q2, rfl, rfl, rfl, h2, r2⟩ := trodAll_cons r1
  obtain ⟨rfl, rfl, rfl⟩ := trodAll_nil r2
  obtain rfl : args = #[v0, v1, v2] := by cases args; simp_all
  obtain ⟨rfl, rfl⟩ := trodVars_none hV
  have k0 := h0
  have lt0 : ∀ x ∈ p0, x.block < W.heap.size := by obtain ⟨m, hm⟩ := k0; exact DataW.trod_lt m _ _ _ hm
  obtain ⟨a0, len0, cap0, rfl⟩ := okWide_slice Tryd.underlying32 (hval 0 32 v0 rfl rfl)
  obtain ⟨z0A, z0c, z0l, he0, x0_0, x0_1, x0_2⟩ : ∃ (z0A : Option Addr) (z0c : Nat) (z0l : (List S37)), (.slice a0 len0 cap0 : Value).cells.toList = [.slice z0A z0l.length z0c] ∧ z0l.length ≤ z0c ∧ Kd.C k37 W z0A z0l.length z0l ∧ (z0l.length ≤ maxLen ∧ ∀ y0_ ∈ z0l, ((Lit.int .i64 y0_.f0).wf = true ∧ y0_.f1.size ≤ maxLen ∧ y0_.f2.size ≤ maxLen ∧ (Lit.int .i64 y0_.f3).wf = true ∧ (y0_.f4.length ≤ maxLen ∧ ∀ y1_ ∈ y0_.f4, (Lit.int .u8 y1_).wf = true))) := by obtain ⟨fuel, hf⟩ := h0; exact read_32 fuel _ _ hf
  obtain ⟨ea0, el0, ec0⟩ : a0 = z0A ∧ len0 = z0l.length ∧ cap0 = z0c := by simpa [Value.cells] using he0
  obtain rfl := ea0.symm
  obtain rfl := el0
  obtain rfl := ec0.symm
  have k1 := h1
  have lt1 : ∀ x ∈ p1, x.block < W.heap.size := by obtain ⟨m, hm⟩ := k1; exact DataW.trod_lt m _ _ _ hm
  obtain ⟨a1, rfl⟩ := okWide_int Tryd.underlying3 (hval 1 3 v1 rfl rfl)
  obtain ⟨z1n, he1, x1_0⟩ : ∃ (z1n : Int), (.int .i64 a1 : Value).cells.toList = [.int .i64 z1n] ∧ (Lit.int .i64 z1n).wf = true := by obtain ⟨fuel, hf⟩ := h1; exact read_3 fuel _ _ hf
  obtain rfl := (show a1 = z1n from by simpa [Value.cells] using he1).symm
  have k2 := h2
  have lt2 : ∀ x ∈ p2, x.block < W.heap.size := by obtain ⟨m, hm⟩ := k2; exact DataW.trod_lt m _ _ _ hm
  obtain ⟨a2, rfl⟩ := okWide_int Tryd.underlying5 (hval 2 5 v2 rfl rfl)
  obtain ⟨z2n, he2, x2_0⟩ : ∃ (z2n : Int), (.int .u8 a2 : Value).cells.toList = [.int .u8 z2n] ∧ (Lit.int .u8 z2n).wf = true := by obtain ⟨fuel, hf⟩ := h2; exact read_5 fuel _ _ hf
  obtain rfl := (show a2 = z2n from by simpa [Value.cells] using he2).symm
  clear hA0 hval0 hsz0 hsz
  refine (StreamTurned_law z0A z0c z0l z1n z2n W ⟨⟨x0_0, x0_1, x0_2⟩⟩ ⟨x1_0⟩ ⟨x2_0⟩ ⟨hL⟩ ⟨hS⟩).mono fun e W' ⟨he, bel⟩ => ?_
  subst he
  exact ⟨_, rfl, _, _, _, [], _, [], hW', trodAll_mk1 (shut_bool Tryd.underlying4 _), (trodAll_cons_mk (Below.trod laidOut (by kernel_rfl) (of_decide_eq_true (by kernel_rfl)) k0 bel lt0) (trodAll_cons_mk (Below.trod laidOut (by kernel_rfl) (of_decide_eq_true (by kernel_rfl)) k1 bel lt1) (trodAll_cons_mk (Below.trod laidOut (by kernel_rfl) (of_decide_eq_true (by kernel_rfl)) k2 bel lt2) trodAll_mk0))), rfl, bel.frame _, fun h => by cases h⟩
theorem over : Rows.streamTurnedRow.holds Tryd.pinned (OpenSpec.ofChange Rows.streamTurnedSpec) :=
  OpenClaim.holds_of_wide 8 Tryd.f8 rfl rfl rfl rfl rfl rfl rfl ⟨rfl, rfl, rfl, rfl, rfl⟩ rfl rfl rfl rfl rfl (by kernel_rfl) Tryd.func8 (by kernel_rfl)
    (of_decide_eq_true (by kernel_rfl)) (by unfold Func.isWrapper; first | (rw [if_pos (by decide +kernel)]; kernel_rfl) | (rw [if_neg (by decide +kernel)]; exact ⟨rfl, rfl⟩))
    (fun os started H enc _ => lifted os started H enc)
end Go.Proofs.YtgklipfeheohkaaDoor.streamTurned
namespace Go.Proofs.YtgklipfeheohkaaDoor
/-- The row, under a short name, for the claim. -/
theorem streamTurned_holds : Rows.StreamTurnedCardSaid :=
  Claim7.holds_tied_plain_at .later [] [.data, .pinned] true (true, "34a8e05e13f2c2a87ca0598166ddaa5ea248cc132e21f42f556cc79c55d3b36b") false streamTurned.over (fun _ h => by cases h) (by kernel_rfl) (fun _ h => by cases h) streamTurned_row_tie rfl ⟨rfl, rfl⟩ (by kernel_rfl) rfl
    (fun g fn hf hfn => by
      obtain rfl : g = 8 := Option.some.inj ((show Tryd.prog.funcNamed "cambium/cambiumlaw19.StreamTurned" = some 8 by kernel_rfl).symm.trans hf) |>.symm
      obtain rfl : fn = Tryd.f8 := (Option.some.inj (Tryd.func8.symm.trans hfn)).symm
      exact ⟨by kernel_rfl, fun j t ht => by
        rw [Tryd.params8] at ht
        have hm : t ∈ [32, 3, 5] := by simpa using Array.mem_of_getElem? ht
        have hall : ([32, 3, 5].all fun u => !Tryd.prog.wantsStandIn u) = true := by kernel_rfl
        exact (show Tryd.prog.wantsStandIn t = false by simpa using List.all_eq_true.1 hall t hm)⟩)
    (by kernel_rfl)
#print axioms streamTurned_holds
end Go.Proofs.YtgklipfeheohkaaDoor
