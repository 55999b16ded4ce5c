/- Whether a superblock may be: the document's function, walked. -/
import Derived.Test.YtjpebckmjlmkmaaSup3
import Derived.Test.YtjpebckmjlmkmaaPx3
import Derived.BigQuiet
namespace Go.Proofs.Ytjpebckmjlmkmaa.P
open Go.RowKit Go.Proofs.YtjpebckmjlmkmaaW.PrintWords Go.Proofs.YtjpebckmjlmkmaaW.PrintLast Go.Proofs.YtjpebckmjlmkmaaW.PrintMore Go.Proofs.Ytjpebckmjlmkmaa.NumLem Go.Proofs.Ytjpebckmjlmkmaa.SealLem Go.Proofs.Ytjpebckmjlmkmaa.Sep
set_option linter.unusedVariables false
theorem refLabel_calls (s : ByteArray) (hs : s.size ≤ 9223372036854775807) (w : World) : Calls Try.prog 18 #[.string s] w fun e w' => e = .returned (.bool (labN s)) ∧ Drawn0 w w' :=
  cambiumref07_Label.calls (s.size + 1) s (labN s) w (SuperLem.refLabel_is s hs _ (Nat.le_refl _))
/-- The cells of the j-th in the block. -/
theorem vol_range {w : World} {B : Nat} {C : Array Value} {s : SupS} (hC : s.cells.toArray = C) (hb : w.heap[B]? = some (.cells C 28 (0, 0))) (hl : s.vols.length = 8) (j : Nat) (hj : j < 8) {v : VolS} (hv : s.vols.getD j .zero = v) : w.rangeAt B (3 + j * 4) v.cells := by
  rw [Nat.mul_comm j 4]
  have h := World.rangeAt_of_block hb (3 + 4 * j) 4
  have e : (C.extract (3 + 4 * j) (3 + 4 * j + 4)).toList = v.cells := by
    subst hC hv
    rw [List.extract_toArray, List.extract_eq_take_drop, show 3 + 4 * j + 4 - (3 + 4 * j) = 4 from by omega]
    show ((s.cells).drop (3 + 4 * j)).take 4 = _
    unfold SupS.cells
    rw [← List.drop_drop, show ([Value.int .i64 s.gen, .int .i64 s.sectors, .int .i64 s.log] ++ volsC s.vols).drop 3 = volsC s.vols from rfl, volsC_at _ j (by omega), List.getD_eq_getElem?_getD, List.getElem?_eq_getElem (by omega)]
    rfl
  rwa [e] at h
theorem vol_name {w : World} {B : Nat} {C : Array Value} {s : SupS} (hC : s.cells.toArray = C) (hb : w.heap[B]? = some (.cells C 28 (0, 0))) (hl : s.vols.length = 8) (j : Nat) (hj : j < 8) {v : VolS} (hv : s.vols.getD j .zero = v) : w.cell? ⟨B, 3 + j * 4, none⟩ = some (.string v.name) :=
  vol_range hC hb hl j hj hv 0 _ rfl
set_option maxHeartbeats 2000000 in
theorem ref_May.st (s : SupS) (hl : s.vols.length = 8) (hn : ∀ v ∈ s.vols, v.name.size ≤ 9223372036854775807) (w : World) :
    Calls Try.prog 22 #[.agg s.cells.toArray] w fun e w' => e = .returned (.bool (mayR s)) ∧ Below w.heap.size w w' := by
  obtain ⟨r, hr⟩ : ∃ r, mayR s = r := ⟨_, rfl⟩
  obtain ⟨C, hC⟩ : ∃ C, s.cells.toArray = C := ⟨_, rfl⟩
  have hsz : C.size = 35 := by rw [← hC, List.size_toArray, cells_length s hl]
  obtain ⟨g, sec, lg, vs⟩ := s
  have h0 : C[0]'(by omega) = .int .i64 g := by subst hC; rfl
  have h1 : C[1]'(by omega) = .int .i64 sec := by subst hC; rfl
  have h2 : C[2]'(by omega) = .int .i64 lg := by subst hC; rfl
  have HST := Aside0.mk ((St.start w).alloc_ C 28)
  rw [hC, hr]
  unfold mayR at hr
  simp only at hr hl hn
  have HL := Aside0.mk hl
  have HN := Aside0.mk hn
  have HR0 := Aside0.mk hr
  have HC := Aside0.mk hC
  clear hn hl hC hr
  by_cases q1 : g < 1
  · have q1d : decide (g < 1) = true := decide_eq_true q1
    obtain rfl : false = r := by rw [← HR0.out, decide_eq_false (show ¬ (1 ≤ g ∧ g ≤ 1099511627775) from by omega)]; simp
    go_enter Try.func22, Try.ntmps22
    go_wp2_with fail
    go_ret
    exact ⟨rfl, HST.out.below⟩
  have q1d : decide (g < 1) = false := decide_eq_false q1
  by_cases q2 : g > 1099511627775
  · have q2d : decide (g > 1099511627775) = true := decide_eq_true q2
    obtain rfl : false = r := by rw [← HR0.out, decide_eq_false (show ¬ (1 ≤ g ∧ g ≤ 1099511627775) from by omega)]; simp
    go_enter Try.func22, Try.ntmps22
    go_wp2_with fail
    go_ret
    exact ⟨rfl, HST.out.below⟩
  have q2d : decide (g > 1099511627775) = false := decide_eq_false q2
  by_cases q3 : sec < 32
  · have q3d : decide (sec < 32) = true := decide_eq_true q3
    obtain rfl : false = r := by rw [← HR0.out, decide_eq_false (show ¬ (32 ≤ sec ∧ sec ≤ 2048) from by omega)]; simp
    go_enter Try.func22, Try.ntmps22
    go_wp2_with fail
    go_ret
    exact ⟨rfl, HST.out.below⟩
  have q3d : decide (sec < 32) = false := decide_eq_false q3
  by_cases q4 : sec > 2048
  · have q4d : decide (sec > 2048) = true := decide_eq_true q4
    obtain rfl : false = r := by rw [← HR0.out, decide_eq_false (show ¬ (32 ≤ sec ∧ sec ≤ 2048) from by omega)]; simp
    go_enter Try.func22, Try.ntmps22
    go_wp2_with fail
    go_ret
    exact ⟨rfl, HST.out.below⟩
  have q4d : decide (sec > 2048) = false := decide_eq_false q4
  by_cases q5 : lg < 0
  · have q5d : decide (lg < 0) = true := decide_eq_true q5
    obtain rfl : false = r := by rw [← HR0.out, decide_eq_false (show ¬ (0 ≤ lg ∧ lg ≤ sec - 1) from by omega)]; simp
    go_enter Try.func22, Try.ntmps22
    go_wp2_with fail
    go_ret
    exact ⟨rfl, HST.out.below⟩
  have q5d : decide (lg < 0) = false := decide_eq_false q5
  by_cases q6 : lg ≥ sec
  · have q6d : decide (lg ≥ sec) = true := decide_eq_true q6
    obtain rfl : false = r := by rw [← HR0.out, decide_eq_false (show ¬ (0 ≤ lg ∧ lg ≤ sec - 1) from by omega)]; simp
    go_enter Try.func22, Try.ntmps22
    go_wp2_with fail
    go_ret
    exact ⟨rfl, HST.out.below⟩
  have q6d : decide (lg ≥ sec) = false := decide_eq_false q6
  have HR := Aside0.mk (show mayFrom sec vs 0 8 = r from by rw [← HR0.out, decide_eq_true (show 1 ≤ g ∧ g ≤ 1099511627775 from by omega), decide_eq_true (show 32 ≤ sec ∧ sec ≤ 2048 from by omega), decide_eq_true (show 0 ≤ lg ∧ lg ≤ sec - 1 from by omega)]; rfl)
  have HSEC := Aside0.mk (show 32 ≤ sec ∧ sec ≤ 2048 from by omega)
  clear HR0
  go_enter Try.func22, Try.ntmps22
  go_wp2_with fail
  clear h0 h1 h2 q1 q1d q2 q2d q3 q3d q4 q4d q5 q5d q6 q6d
  go_loopw [3] (fun i wr => ∃ j : Nat, i = .int .i64 j ∧ j ≤ 8 ∧ Aside0 (St w wr [blk w.heap.size C 28]) ∧ Aside0 (mayFrom sec vs j (8 - j) = r)) (fun i _ => 8 - (intOf i).toNat)
  case atStart => exact ⟨0, rfl, by omega, HST, HR⟩
  case round =>
    clear HST HR
    obtain ⟨j, rfl, hj, HS, HQ⟩ := hrel
    by_cases hlt : j < 8
    · have l1 : decide ((j : Int) < 8) = true := decide_eq_true (by omega)
      have l2 : (j : Int) < 8 := by omega
      obtain ⟨v, hv⟩ : ∃ v, vs.getD j .zero = v := ⟨_, rfl⟩
      have HV := Aside0.mk hv
      have HVR := Aside0.mk (vol_range HC.out HS.out.blk_is HL.out j hlt hv)
      have HLT := Aside0.mk hlt
      have hnv : v.name.size ≤ 9223372036854775807 := HN.out v (by rw [← hv, List.getD_eq_getElem?_getD, List.getElem?_eq_getElem (by rw [HL.out]; exact hlt)]; exact List.getElem_mem _)
      have HNV := Aside0.mk hnv
      have heq := fun W => eql_zero v W
      obtain ⟨z, hz⟩ : ∃ z, isZ v = z := ⟨_, rfl⟩
      rw [hz] at heq
      have HZ := Aside0.mk hz
      obtain ⟨nm, ro, rt, nx⟩ := v
      change ∀ W, Sem.run _ (binOp _ _ (Value.agg #[.string nm, .bool ro, .int .i64 rt, .int .i64 nx]) _) W = _ at heq
      clear hv hnv hz hlt
      have k0 := HVR.out 0 _ rfl
      have k1 := HVR.out 1 _ rfl
      have k2 := HVR.out 2 _ rfl
      have k3 := HVR.out 3 _ rfl
      rw [Nat.add_zero] at k0
      cases z with
      | true =>
        go_wp2_with fail
        refine ⟨⟨j + 1, rfl, HLT.out, ⟨HS.out.alloc _⟩, ?_⟩, meas_i j 8 HLT.out _ rfl⟩
        have hq := may_step HLT.out HQ.out HV.out
        rw [HZ.out] at hq
        exact Aside0.mk hq
      | false =>
        have hq := may_step HLT.out HQ.out HV.out
        rw [HZ.out, Bool.false_or] at hq
        have HQ2 := Aside0.mk hq
        clear hq
        obtain ⟨bl, hbl⟩ : ∃ b, labN nm = b := ⟨_, rfl⟩
        have HBL := Aside0.mk hbl
        have HOK := Aside0.mk (show okV sec ⟨nm, ro, rt, nx⟩ = (bl && (decide (0 ≤ rt ∧ rt ≤ sec - 1) && decide (2 ≤ nx ∧ nx ≤ 2147483647))) from by unfold okV; rw [hbl])
        clear hbl
        go_wp2_with fail
        refine (refLabel_calls nm HNV.out _).mono ?_
        rintro e w1 ⟨rfl, hb⟩
        rw [HBL.out]
        clear k0 k1 k2 k3
        have HS1 := Aside0.mk (((HS.out.alloc_ #[.string nm, .bool ro, .int .i64 rt, .int .i64 nx] 25)).below_ hb.below)
        have k2 := blk_cell HS1.out.blk_is 2
        have k3 := blk_cell HS1.out.blk_is 3
        have k0 := blk_cell HS1.out.blk_is 0
        have c1 := (blk_cell HS1.out.swap.blk_is 1).trans (show C[1]? = some (.int .i64 sec) from by rw [← HC.out]; rfl)
        clear hb
        cases bl with
        | false =>
          go_wp2_with fail
          go_ret
          rw [HOK.out] at HQ2
          exact ⟨by rw [← HQ2.out]; rfl, HS1.out.below⟩
        | true =>
        by_cases p1 : rt < 0
        · have p1d : decide (rt < 0) = true := decide_eq_true p1
          obtain rfl : false = r := by rw [← HQ2.out, HOK.out, decide_eq_false (show ¬ (0 ≤ rt ∧ rt ≤ sec - 1) from by omega)]; simp
          go_wp2_with fail
          go_ret
          exact ⟨rfl, HS1.out.below⟩
        have p1d : decide (rt < 0) = false := decide_eq_false p1
        by_cases p2 : rt ≥ sec
        · have p2d : decide (rt ≥ sec) = true := decide_eq_true p2
          obtain rfl : false = r := by rw [← HQ2.out, HOK.out, decide_eq_false (show ¬ (0 ≤ rt ∧ rt ≤ sec - 1) from by omega)]; simp
          go_wp2_with fail
          go_ret
          exact ⟨rfl, HS1.out.below⟩
        have p2d : decide (rt ≥ sec) = false := decide_eq_false p2
        by_cases p3 : nx < 2
        · have p3d : decide (nx < 2) = true := decide_eq_true p3
          obtain rfl : false = r := by rw [← HQ2.out, HOK.out, decide_eq_false (show ¬ (2 ≤ nx ∧ nx ≤ 2147483647) from by omega)]; simp
          go_wp2_with fail
          go_ret
          exact ⟨rfl, HS1.out.below⟩
        have p3d : decide (nx < 2) = false := decide_eq_false p3
        by_cases p4 : nx > 2147483647
        · have p4d : decide (nx > 2147483647) = true := decide_eq_true p4
          obtain rfl : false = r := by rw [← HQ2.out, HOK.out, decide_eq_false (show ¬ (2 ≤ nx ∧ nx ≤ 2147483647) from by omega)]; simp
          go_wp2_with fail
          go_ret
          exact ⟨rfl, HS1.out.below⟩
        have p4d : decide (nx > 2147483647) = false := decide_eq_false p4
        have HOK2 := Aside0.mk (show okV sec ⟨nm, ro, rt, nx⟩ = true from by rw [HOK.out, decide_eq_true (show 0 ≤ rt ∧ rt ≤ sec - 1 from by omega), decide_eq_true (show 2 ≤ nx ∧ nx ≤ 2147483647 from by omega)]; rfl)
        go_wp2_with fail
        clear heq p1 p1d p2 p2d p3 p3d p4 p4d k0 k2 k3 c1
        go_loopw [6] (fun i wv => ∃ k : Nat, i = .int .i64 k ∧ k ≤ j ∧ Aside0 (St w wv [blk wr.heap.size #[.string nm, .bool ro, .int .i64 rt, .int .i64 nx] 25, blk w.heap.size C 28]) ∧ Aside0 (∀ q, q < k → seenAt vs j q ≠ nm)) (fun i _ => 8 - (intOf i).toNat)
        case atStart => exact ⟨0, rfl, by omega, HS1, ⟨fun q hq => absurd hq (Nat.not_lt_zero _)⟩⟩
        case round =>
          clear HS1
          obtain ⟨k, rfl, hk, HS2, HK⟩ := hrel
          by_cases hkl : k < j
          · have m1 : decide ((k : Int) < (j : Int)) = true := decide_eq_true (by omega)
            have m2 : (k : Int) < (j : Int) := by omega
            have m3 : (k : Int) < 8 := by have := HLT.out; omega
            have m4 : k < 8 := by have := HLT.out; omega
            have k0 := blk_cell HS2.out.blk_is 0
            have hx := vol_name HC.out HS2.out.swap.blk_is HL.out k m4 rfl
            obtain ⟨sa, hsa⟩ : ∃ sa, seenAt vs j k = sa := ⟨_, rfl⟩
            rw [show ((⟨g, sec, lg, vs⟩ : SupS).vols.getD k .zero).name = sa from by rw [← hsa]; unfold seenAt; rw [if_pos hkl]] at hx
            have HSA := Aside0.mk hsa
            have HKL := Aside0.mk hkl
            have HK8 := Aside0.mk m4
            obtain ⟨b, hb⟩ : ∃ b, (sa.toList == nm.toList) = b := ⟨_, rfl⟩
            have HB := Aside0.mk hb
            clear hsa hkl m4
            cases b with
            | true =>
              go_upto_region 14 with fail
              go_quiet (fail)
              go_wp2_with fail
              go_ret
              have hq := HQ2.out
              have hsn : sa = nm := by have := HB.out; rw [toList_eq'] at this; exact of_decide_eq_true this
              rw [HOK2.out, seen_yes HL.out HLT.out HK8.out (labN_size HBL.out).1 (HSA.out.trans hsn)] at hq
              exact ⟨by rw [← hq]; rfl, (HS2.out.drewN _).below⟩
            | false =>
              go_upto_region 14 with fail
              go_quiet (fail)
              go_wp2_with fail
              refine ⟨⟨k + 1, rfl, HKL.out, ⟨HS2.out.drewN _⟩, ⟨fun q hq => ?_⟩⟩, meas_i k 8 HK8.out _ rfl⟩
              by_cases e : q = k
              · subst e
                rw [HSA.out]
                intro hsn
                have := HB.out
                rw [toList_eq', hsn, decide_eq_true rfl] at this
                cases this
              · exact HK.out q (by omega)
          · obtain rfl : k = j := by omega
            have m1 : decide ((k : Int) < (k : Int)) = false := by simp
            have hsn := seen_no HL.out (Nat.le_of_lt HLT.out) (n := nm) (fun q hq => HK.out q hq)
            have HQ3 := Aside0.mk (show mayFrom sec vs (k + 1) (8 - (k + 1)) = r from by have := HQ2.out; rw [HOK2.out, hsn] at this; exact this)
            clear hsn
            go_wp2_with fail
            refine ⟨⟨k + 1, rfl, HLT.out, ⟨HS2.out.drop⟩, HQ3⟩, meas_i k 8 HLT.out _ rfl⟩
    · obtain rfl : j = 8 := by omega
      have l1 : decide (((8 : Nat) : Int) < 8) = false := by decide
      go_wp2_with fail
      go_ret
      exact ⟨by rw [← HQ.out]; rfl, HS.out.below⟩
end Go.Proofs.Ytjpebckmjlmkmaa.P
