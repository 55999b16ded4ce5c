/- Whether a superblock may be: both functions, walked. -/
import Derived.Test.YtjpebckmjlmkmaaSup2
import Derived.Test.YtjpebckmjlmkmaaSep
import Derived.Test.YtjpebckmjlmkmaaPx1
import Derived.Test.YtjpebckmjlmkmaaPx1
import Derived.Below
import Derived.Deep.Draws
import Derived.Deep.AppendLies
import Derived.Maps.AppendAt
import Derived.OwnWalk
import Derived.Laws.BytesArg
import Derived.Laws.MakeOwn
import Derived.Laws.OwnMore
import Derived.Deep.OwnRows
import Derived.Tactics
import Derived.Lib.ConvBytes
import Derived.Laws.Slices
import Derived.WalkKit
import Derived.KernelRfl
import Derived.RowKit3
import Derived.Deep.LoopGhost
import Derived.Deep.QuietTactic
import Derived.BigQuiet
import Derived.WideLaws
import Derived.Deep.DeepCutAuto
import Derived.Deep.CutBlock
import Derived.Deep.RegionHeld3
import Derived.Laws.Rows
import Derived.Lib.AppendStr
import Derived.ArgAppend
import Derived.Laws.IdiomCopy
import Derived.OrdersHeld
import Derived.Laws.BitsLemmas
import Derived.RowKit
import Derived.Outline
import Derived.StillTailTactics
import Derived.Lib.SlBytesConst
import Derived.Deep.DeepCutAuto
import Derived.Deep.RegionHeld3
import Derived.Deep.RegionLaw
namespace Go.Proofs.Ytjpebckmjlmkmaa.P
open Go.RowKit Go.Proofs.YtjpebckmjlmkmaaW.PrintWords Go.Proofs.YtjpebckmjlmkmaaW.PrintLast Go.Proofs.YtjpebckmjlmkmaaW.PrintMore Go.Proofs.Ytjpebckmjlmkmaa.NumLem Go.Proofs.Ytjpebckmjlmkmaa.SealLem Go.Proofs.Ytjpebckmjlmkmaa.Sep
set_option linter.unusedVariables false
theorem within_same (a b c : Int) (w : World) : Calls Try.prog 24 #[.int .i64 a, .int .i64 b, .int .i64 c] w fun e w' => e = .returned (.bool (decide (b ≤ a ∧ a ≤ c))) ∧ w = w' := by
  by_cases h1 : b ≤ a
  · have h2 : decide (b ≤ a) = true := decide_eq_true h1
    have h3 : decide (b ≤ a ∧ a ≤ c) = decide (a ≤ c) := decide_eq_decide.2 (by omega)
    rw [h3]
    go_enter Try.func24, Try.ntmps24
    go_wp2
    go_ret
    exact ⟨rfl, rfl⟩
  · have h2 : decide (b ≤ a) = false := decide_eq_false h1
    rw [decide_eq_false (fun q : b ≤ a ∧ a ≤ c => h1 q.1)]
    go_enter Try.func24, Try.ntmps24
    go_wp2
    go_ret
    exact ⟨rfl, rfl⟩
theorem label_calls (s : ByteArray) (hs : s.size ≤ 9223372036854775807) (w : World) : Calls Try.prog 17 #[.string s] w fun e w' => e = .returned (.bool (labN s)) ∧ Below w.heap.size w w' :=
  super_Label.calls (3 * s.size + 1) s (labN s) w (SuperLem.Label_is s hs _ (Nat.le_refl _))
theorem inc_i (j : Nat) (h : j < 100000) : wrap64 ((j : Int) + 1) = ((j + 1 : Nat) : Int) := by unfold wrap64; omega
theorem meas_i (z M : Nat) (h : z < M) (y : Int) (hy : y = ((z + 1 : Nat) : Int)) : M - (intOf (.int .i64 y)).toNat < M - (intOf (.int .i64 (z : Int))).toNat := by
  subst hy
  simp only [intOf, Int.toNat_natCast]
  omega
theorem may_step {sec : Int} {vs : List VolS} {j : Nat} {r : Bool} (hj : j < 8) (h : mayFrom sec vs j (8 - j) = r) {v : VolS} (hv : vs.getD j .zero = v) : ((isZ v || (okV sec v && !(seenB vs j v.name))) && mayFrom sec vs (j + 1) (8 - (j + 1))) = r := by
  subst hv
  rw [show 8 - j = (8 - (j + 1)) + 1 from by omega] at h
  exact h
theorem toList_eq' {a b : ByteArray} : (a.toList == b.toList) = decide (a = b) := by
  by_cases h : a = b
  · rw [h, decide_eq_true rfl]; simp
  · rw [decide_eq_false h]
    refine beq_false_of_ne fun e => h ?_
    rw [ByteArray.toList_eq, ByteArray.toList_eq] at e
    obtain ⟨⟨a⟩⟩ := a
    obtain ⟨⟨b⟩⟩ := b
    have : a = b := e
    rw [this]
theorem seen_yes {vs : List VolS} (hl : vs.length = 8) {j q : Nat} (hj : j < 8) (hq : q < 8) {n : ByteArray} (hn : 1 ≤ n.size) (h : seenAt vs j q = n) : seenB vs j n = true := by
  unfold seenAt at h
  by_cases hqj : q < j
  · rw [if_pos hqj] at h
    unfold seenB
    rw [List.any_eq_true]
    refine ⟨vs.getD q .zero, ?_, by rw [h]; exact decide_eq_true rfl⟩
    rw [List.getD_eq_getElem?_getD, List.getElem?_eq_getElem (by omega), Option.getD_some, List.mem_take_iff_getElem]
    exact ⟨q, by omega, rfl⟩
  · rw [if_neg hqj] at h
    subst h
    exact absurd hn (by decide)
theorem seen_no {vs : List VolS} (hl : vs.length = 8) {j : Nat} (hj : j ≤ 8) {n : ByteArray} (h : ∀ q, q < j → seenAt vs j q ≠ n) : seenB vs j n = false := by
  unfold seenB
  rw [List.any_eq_false]
  intro u hu
  obtain ⟨q, hq, rfl⟩ := List.mem_take_iff_getElem.1 hu
  have h2 := h q (by omega)
  unfold seenAt at h2
  rw [if_pos (by omega), List.getD_eq_getElem?_getD, List.getElem?_eq_getElem (by omega), Option.getD_some] at h2
  simpa using h2
set_option maxHeartbeats 2000000 in
theorem super_May.st (s : SupS) (hl : s.vols.length = 8) (hn : ∀ v ∈ s.vols, v.name.size ≤ 9223372036854775807) (w : World) :
    Calls Try.prog 21 #[.agg s.cells.toArray] w fun e w' => e = .returned (.bool (mayR s)) ∧ Below w.heap.size w w' := by
  obtain ⟨r, hr⟩ : ∃ r, mayR s = r := ⟨_, rfl⟩
  obtain ⟨C, hC⟩ : ∃ C, s.cells.toArray = C := ⟨_, rfl⟩
  have hsz : C.size = 35 := by rw [← hC, List.size_toArray, cells_length s hl]
  obtain ⟨g, sec, lg, vs⟩ := s
  have h0 : C[0]'(by omega) = .int .i64 g := by subst hC; rfl
  have h1 : C[1]'(by omega) = .int .i64 sec := by subst hC; rfl
  have h2 : C[2]'(by omega) = .int .i64 lg := by subst hC; rfl
  have HVR := Aside0.mk (show (w.alloc (.cells C 28)).rangeAt w.heap.size 3 (volsC vs) from by
    subst hC; exact rangeAt_new w _ _ 3 _ (vols_range ⟨g, sec, lg, vs⟩ hl))
  have HST := Aside0.mk ((St.start w).alloc_ C 28)
  rw [hC, hr]
  unfold mayR at hr
  simp only at hr hl hn
  have HVL := Aside0.mk (show (volsC vs).length = 32 from by rw [volsC_length, hl])
  have HL := Aside0.mk hl
  have HN := Aside0.mk hn
  obtain ⟨b1, hb1⟩ : ∃ b, decide (1 ≤ g ∧ g ≤ 1099511627775) = b := ⟨_, rfl⟩
  obtain ⟨b2, hb2⟩ : ∃ b, decide (32 ≤ sec ∧ sec ≤ 2048) = b := ⟨_, rfl⟩
  rw [hb1, hb2] at hr
  have HB2 := Aside0.mk hb2
  have HC := Aside0.mk hC
  clear hn hl hC
  cases b1 with
  | false =>
    obtain rfl : false = r := hr
    go_enter Try.func21, Try.ntmps21
    go_wp2_with fail
    refine (within_same _ _ _ _).mono ?_
    rintro e w1 ⟨rfl, rfl⟩
    rw [hb1]
    go_wp2_with fail
    go_ret
    exact ⟨rfl, HST.out.below⟩
  | true =>
  cases b2 with
  | false =>
    obtain rfl : false = r := hr
    go_enter Try.func21, Try.ntmps21
    go_wp2_with fail
    refine (within_same _ _ _ _).mono ?_
    rintro e w1 ⟨rfl, rfl⟩
    rw [hb1]
    go_wp2_with fail
    refine (within_same _ _ _ _).mono ?_
    rintro e w1 ⟨rfl, rfl⟩
    rw [hb2]
    go_wp2_with fail
    go_ret
    exact ⟨rfl, HST.out.below⟩
  | true =>
  have hsec := of_decide_eq_true hb2
  have e1 : wrap64 (sec - 1) = sec - 1 := by unfold wrap64; omega
  obtain ⟨b3, hb3⟩ : ∃ b, decide (0 ≤ lg ∧ lg ≤ sec - 1) = b := ⟨_, rfl⟩
  rw [hb3] at hr
  have HSEC := Aside0.mk hsec
  clear hsec
  cases b3 with
  | false =>
    obtain rfl : false = r := hr
    go_enter Try.func21, Try.ntmps21
    go_wp2_with fail
    refine (within_same _ _ _ _).mono ?_
    rintro e w1 ⟨rfl, rfl⟩
    rw [hb1]
    go_wp2_with fail
    refine (within_same _ _ _ _).mono ?_
    rintro e w1 ⟨rfl, rfl⟩
    rw [hb2]
    go_wp2_with fail
    refine (within_same _ _ _ _).mono ?_
    rintro e w1 ⟨rfl, rfl⟩
    rw [hb3]
    go_wp2_with fail
    go_ret
    exact ⟨rfl, HST.out.below⟩
  | true =>
  have HR := Aside0.mk (show mayFrom sec vs 0 8 = r from hr)
  clear hr
  go_enter Try.func21, Try.ntmps21
  go_wp2_with fail
  refine (within_same _ _ _ _).mono ?_
  rintro e w1 ⟨rfl, rfl⟩
  rw [hb1]
  go_wp2_with fail
  refine (within_same _ _ _ _).mono ?_
  rintro e w1 ⟨rfl, rfl⟩
  rw [hb2]
  go_wp2_with fail
  refine (within_same _ _ _ _).mono ?_
  rintro e w1 ⟨rfl, rfl⟩
  rw [hb3]
  go_upto_region 5 with fail
  have HST2 := Aside0.mk (HST.out.alloc_ (seenC vs 0) 62)
  have HVR2 := Aside0.mk (World.rangeAt_alloc HVR.out (.cells (seenC vs 0) 62))
  rw [seenC_zero] at HST2 HVR2
  go_wp2_with (refine wpList_load_mid rfl 26 _ rfl w.heap.size 3 rfl (volsC vs) _ HVR2.out Try.underlying26 rfl (by rw [HVL.out]; rfl) ?_)
  clear h0 h1 h2 HVR HST hb1 hb2 hb3 HVR2
  have HST3 := Aside0.mk (show St w _ [blk (w.heap.size + 1) (seenC vs 0) 62, blk w.heap.size C 28] from by rw [seenC_zero]; simpa using HST2.out)
  clear HST2
  go_loopw [31] (fun i wr => ∃ j : Nat, i = .int .i64 j ∧ j ≤ 8 ∧ Aside0 (St w wr [blk (w.heap.size + 1) (seenC vs j) 62, blk w.heap.size C 28]) ∧ Aside0 (mayFrom sec vs j (8 - j) = r)) (fun i _ => 8 - (intOf i).toNat)
  case atStart => exact ⟨0, rfl, by omega, HST3, HR⟩
  case round =>
    clear HST3 HR
    obtain ⟨j, rfl, hj, HS, HQ⟩ := hrel
    by_cases hlt : j < 8
    · have l1 : decide ((j : Int) < 8) = true := decide_eq_true (by omega)
      have l2 : (j : Int) < 8 := by omega
      have hix := fun W => vols_index vs HL.out j hlt W
      obtain ⟨v, hv⟩ : ∃ v, vs.getD j .zero = v := ⟨_, rfl⟩
      rw [hv] at hix
      have HV := Aside0.mk hv
      have HLT := Aside0.mk hlt
      have hi1 := Aside0.mk (show (j : Int) + 1 = ((j + 1 : Nat) : Int) from rfl)
      have hnv : v.name.size ≤ 9223372036854775807 := HN.out v (by rw [← hv, List.getD_eq_getElem?_getD, List.getElem?_eq_getElem (by rw [HL.out]; exact hlt)]; exact List.getElem_mem _)
      have HNV := Aside0.mk hnv
      have heq := fun W => eql_zero v W
      obtain ⟨z, hz⟩ : ∃ z, isZ v = z := ⟨_, rfl⟩
      rw [hz] at heq
      have HZ := Aside0.mk hz
      obtain ⟨nm, ro, rt, nx⟩ := v
      change ∀ W, _ = Result.ok (Value.agg #[.string nm, .bool ro, .int .i64 rt, .int .i64 nx]) W at hix
      change ∀ W, Sem.run _ (binOp _ _ (Value.agg #[.string nm, .bool ro, .int .i64 rt, .int .i64 nx]) _) W = _ at heq
      clear hv hnv hz hlt
      cases z with
      | true =>
        go_wp2_with fail
        refine ⟨⟨j + 1, by rw [hi1.out], HLT.out, ?_, ?_⟩, meas_i j 8 HLT.out _ hi1.out⟩
        · exact Aside0.mk (by rw [← seenC_same vs j (by rw [HV.out]; exact HZ.out)]; exact HS.out.alloc _)
        · have hq := may_step HLT.out HQ.out HV.out
          rw [HZ.out] at hq
          exact Aside0.mk hq
      | false =>
        have hq := may_step HLT.out HQ.out HV.out
        rw [HZ.out, Bool.false_or] at hq
        have HQ2 := Aside0.mk hq
        clear hq
        obtain ⟨bl, hbl⟩ : ∃ b, labN nm = b := ⟨_, rfl⟩
        obtain ⟨b4, hb4⟩ : ∃ b, decide (0 ≤ rt ∧ rt ≤ sec - 1) = b := ⟨_, rfl⟩
        obtain ⟨b5, hb5⟩ : ∃ b, decide (2 ≤ nx ∧ nx ≤ 2147483647) = b := ⟨_, rfl⟩
        have HOK := Aside0.mk (show okV sec ⟨nm, ro, rt, nx⟩ = (bl && (b4 && b5)) from by unfold okV; rw [hbl, hb4, hb5])
        have HBL := Aside0.mk hbl
        clear hbl
        go_wp2_with fail
        refine (label_calls nm HNV.out _).mono ?_
        rintro e w1 ⟨rfl, hb⟩
        rw [HBL.out]
        have HS1 := Aside0.mk (((HS.out.alloc_ #[.string nm, .bool ro, .int .i64 rt, .int .i64 nx] 25)).below_ hb)
        have k2 := blk_cell HS1.out.blk_is 2
        have k3 := blk_cell HS1.out.blk_is 3
        have k0 := blk_cell HS1.out.blk_is 0
        cases bl with
        | false =>
          go_wp2_with fail
          go_ret
          rw [HOK.out] at HQ2
          exact ⟨by rw [← HQ2.out]; rfl, HS1.out.below⟩
        | true =>
        go_wp2_with fail
        refine (within_same _ _ _ _).mono ?_
        rintro e w2 ⟨rfl, rfl⟩
        rw [hb4]
        cases b4 with
        | false =>
          go_wp2_with fail
          go_ret
          rw [HOK.out] at HQ2
          exact ⟨by rw [← HQ2.out]; rfl, HS1.out.below⟩
        | true =>
        go_wp2_with fail
        refine (within_same _ _ _ _).mono ?_
        rintro e w2 ⟨rfl, rfl⟩
        rw [hb5]
        cases b5 with
        | false =>
          go_wp2_with fail
          go_ret
          rw [HOK.out] at HQ2
          exact ⟨by rw [← HQ2.out]; rfl, HS1.out.below⟩
        | true =>
        have HRG := Aside0.mk (show w1.rangeAt (w.heap.size + 1) 0 (seenC vs j).toList from by
          have := World.rangeAt_of_block (HS1.out.swap.blk_is) 0 8
          rwa [Nat.zero_add, ← seenC_size vs j, Array.extract_size] at this)
        clear hb hb4 hb5 hix heq k2 k3
        obtain ⟨dl, hdl⟩ : ∃ dl, (seenC vs j).toList = dl := ⟨_, rfl⟩
        have HDL := Aside0.mk (show dl.length = 8 from by rw [← hdl, Array.length_toList, seenC_size])
        have HSI := Aside0.mk (show ∀ k : Nat, k < 8 → ∀ W, (Instr.index 62 (.agg dl.toArray) (.int .i64 k)).run Try.prog W = .ok (.string (seenAt vs j k)) W from fun k hk W => by rw [← hdl, Array.toArray_toList]; exact seen_index vs j k hk W)
        rw [hdl] at HRG
        clear hdl
        go_wp2_with (refine wpList_load_mid rfl 62 _ rfl (w.heap.size + 1) 0 rfl dl _ HRG.out Try.underlying62 rfl (by rw [HDL.out]; rfl) ?_)
        go_loop [56] (fun i => ∃ k : Nat, i = .int .i64 k ∧ k ≤ 8 ∧ Aside0 (∀ q, q < k → seenAt vs j q ≠ nm)) (fun i => 8 - (intOf i).toNat)
        case atStart => exact ⟨0, rfl, by omega, ⟨fun q hq => absurd hq (Nat.not_lt_zero _)⟩⟩
        case round =>
          obtain ⟨k, rfl, hk, HK⟩ := hrel
          by_cases hkl : k < 8
          · have m1 : decide ((k : Int) < 8) = true := decide_eq_true (by omega)
            have m2 : (k : Int) < 8 := by omega
            have hx := HSI.out k hkl
            obtain ⟨sa, hsa⟩ : ∃ sa, seenAt vs j k = sa := ⟨_, rfl⟩
            rw [hsa] at hx
            have HSA := Aside0.mk hsa
            have HKL := Aside0.mk hkl
            obtain ⟨b, hb⟩ : ∃ b, (sa.toList == nm.toList) = b := ⟨_, rfl⟩
            have HB := Aside0.mk hb
            clear hsa hkl
            cases b with
            | true =>
              go_wp2_with fail
              go_ret
              have hq := HQ2.out
              have hsn : sa = nm := by have := HB.out; rw [toList_eq'] at this; exact of_decide_eq_true this
              rw [HOK.out, seen_yes HL.out HLT.out HKL.out (labN_size HBL.out).1 (HSA.out.trans hsn)] at hq
              exact ⟨by rw [← hq]; rfl, HS1.out.below⟩
            | false =>
              go_wp2_with fail
              refine ⟨⟨k + 1, rfl, HKL.out, ⟨fun q hq => ?_⟩⟩, meas_i k 8 HKL.out _ rfl⟩
              by_cases e : q = k
              · subst e
                rw [HSA.out]
                intro hsn
                have := HB.out
                rw [toList_eq', hsn, decide_eq_true rfl] at this
                cases this
              · exact HK.out q (by omega)
          · obtain rfl : k = 8 := by omega
            have m1 : decide (((8 : Nat) : Int) < 8) = false := by decide
            have hsn := seen_no HL.out (Nat.le_of_lt HLT.out) (n := nm) (fun q hq => HK.out q (by have := HLT.out; omega))
            have HQ3 := Aside0.mk (show mayFrom sec vs (j + 1) (8 - (j + 1)) = r from by have := HQ2.out; rw [HOK.out, hsn] at this; exact this)
            have HS2 := Aside0.mk (show St w _ [blk (w.heap.size + 1) (seenC vs (j + 1)) 62, blk w.heap.size C 28] from by
              have h3 := HS1.out.swap.blk_set j (.string nm)
              rw [show nm = (vs.getD j .zero).name from by rw [HV.out], seenC_set vs j HLT.out] at h3
              exact h3.swap.drop)
            have kf := blk_frozen HS1.out.swap.blk_is j
            have kc := (blk_cell HS1.out.swap.blk_is j).trans (seenC_at vs j j HLT.out)
            clear hsn
            go_wp2_with fail
            refine ⟨⟨j + 1, rfl, HLT.out, ?_, HQ3⟩, meas_i j 8 HLT.out _ rfl⟩
            rw [HV.out] at HS2
            exact HS2
    · obtain rfl : j = 8 := by omega
      have l1 : decide (((8 : Nat) : Int) < 8) = false := by decide
      go_wp2_with fail
      go_ret
      exact ⟨by rw [← HQ.out]; rfl, HS.out.below⟩
end Go.Proofs.Ytjpebckmjlmkmaa.P
