/- DriveTurns' walk. -/
import Derived.Test.YtoloibjdiojmlaaFuses
namespace Go.Proofs.Ytoloibjdiojmlaa.P
open Go.RowKit Go.Proofs.YtoloibjdiojmlaaW.PrintWords Go.Proofs.YtoloibjdiojmlaaW.PrintLast Go.Proofs.YtoloibjdiojmlaaW.PrintMore Go.Proofs.Ytoloibjdiojmlaa.Sep
set_option linter.unusedVariables false
set_option linter.unusedSimpArgs false
attribute [local go_sem] max2_int min2_int max_two min_two max_three min_three max_four min_four
structure TInv (i : Nat) (D : DV) : Prop where
  n : D.hs.length = 32
  t : D.ts.length = 32
  o : D.off = false
  f : D.fuse = -1
  s : D.steps = i
namespace TInv
variable {i : Nat} {D : DV}
theorem free (h : TInv i D) : stepE D = 0 := by
  unfold stepE
  rw [if_neg (by rw [h.o, h.f]; decide)]
theorem step (h : TInv i D) : stepD D = { D with steps := i + 1 } := by
  unfold stepD
  rw [if_neg (by rw [h.o, h.f]; decide), if_neg (by rw [h.f]; decide), h.s]
theorem put (h : TInv i D) (s : Nat) (x : List Int) : TInv (i + 1) (putD (stepD D) s x) := by
  rw [h.step]
  exact ⟨h.n, by unfold putD; simp [h.t], h.o, h.f, rfl⟩
theorem start : TInv 0 (newD 32) := ⟨by unfold newD; rw [List.length_replicate], by unfold newD; rw [List.length_replicate], rfl, rfl, rfl⟩
theorem corrupt (h : TInv i D) (s j : Nat) (m : Int) : TInv i (corruptD D s j m) := ⟨by unfold corruptD; simp [h.n], by unfold corruptD; simp [h.t], h.o, h.f, h.s⟩
end TInv
theorem lastS_corrupt (D : DV) (s j : Nat) (m : Int) (h1 : s < D.hs.length) (h2 : s < D.ts.length) : lastS (corruptD D s j m) s = turnS j m (lastS D s) := by
  unfold lastS corruptD
  dsimp only
  have e1 : (D.hs.set s (turnS j m (D.hs.getD s []))).getD s [] = turnS j m (D.hs.getD s []) := by
    rw [List.getD_eq_getElem?_getD (l := List.set _ _ _), List.getElem?_set_self h1]; rfl
  have e2 : (D.ts.set s ((D.ts.getD s []).map (turnS j m))).getD s [] = (D.ts.getD s []).map (turnS j m) := by
    rw [List.getD_eq_getElem?_getD (l := List.set _ _ _), List.getElem?_set_self h2]; rfl
  simp only [e1, e2]
  exact List.getLast_map (l := D.hs.getD s [] :: D.ts.getD s []) (f := turnS j m) (by simp)
section
variable {w0 w : World} {ps : List HP} {g : Nat} {D : DV}
theorem kSec_all {A : Option Addr} {n : Nat} {xs : List (List Int)} (h : kSec.C w A n xs) : ∀ x ∈ xs, Sec x := by
  intro x hx
  obtain ⟨j, hj, rfl⟩ := List.mem_iff_getElem.1 hx
  have hn : xs.length = n := h.1
  obtain ⟨ad, _, hc⟩ := h.2.2 (by omega)
  obtain ⟨c, _, hk, _⟩ := hc j _ (List.getElem?_eq_getElem hj)
  exact hk.1
theorem drv_sec (h : St w0 w (drv g D :: ps)) (i : Nat) (hi : i < D.hs.length) : Sec (lastS D i) := by
  obtain ⟨hp, ⟨A, c, b, m⟩, hs⟩ := drv_out h
  have h1 := kSec_all (hs.swap.row_C).2.2
  obtain ⟨v, _, _, h2⟩ := St.map_take (hs.front 2) (i : Int)
  obtain ⟨A2, c2, hv⟩ := (h2.front 1).row_slice
  subst hv
  have h3 := kSec_all ((h2.front 1).row_C).2.2
  rw [look_nat] at h3
  have h4 := List.getLast_mem (l := D.hs.getD i [] :: D.ts.getD i []) (List.cons_ne_nil _ _)
  show Sec (List.getLast (D.hs.getD i [] :: D.ts.getD i []) _)
  rcases List.mem_cons.1 h4 with h4 | h4
  · rw [h4]
    refine h1 _ ?_
    rw [List.getD_eq_getElem?_getD, List.getElem?_eq_getElem hi]
    exact List.getElem_mem _
  · exact h3 _ h4
theorem byte_at {e g : Nat} {x : List Int} (h : St w0 w (row (Kd.int .u8) e (sl g) x :: ps)) (i : Nat) (hi : i < 256) : w.cell? ⟨g, i, none⟩ = some (.int .u8 (x.getD i 0)) := by
  obtain ⟨g', hA, hc, _⟩ := h.row_at i hi 0
  injection hA with hA
  injection hA with hA
  subst hA
  exact hc
end
theorem turnS_at (j : Nat) (m : Int) (x : List Int) (hx : x.length = 256) (i : Nat) (hi : i < 256) : (turnS j m x).getD i 0 = if i = j then xorB (x.getD i 0) m else x.getD i 0 := by
  unfold turnS
  rw [List.getD_eq_getElem?_getD]
  by_cases h : i = j
  · subst h
    rw [if_pos rfl, List.getElem?_set_self (by omega)]
    rfl
  · rw [if_neg h, List.getElem?_set_ne (fun q => h q.symm), ← List.getD_eq_getElem?_getD]
def tu_T : Bool × List (List Nat × List Nat) := (true, [([], []), ([], []), ([], []), ([1, 2], [1, 2]), ([3], [3]), ([4], [4]), ([5], [5]), ([], []), ([], []), ([7, 8], [7, 8]), ([9], [9]), ([10], [10]), ([11, 6], [11]), ([0, 6, 12, 12], [0, 6, 12])])
def tu_B : List Nat := [0, 0, 0, 6, 14, 30, 62, 0, 0, 384, 896, 1920, 4094, 8191]
theorem tu_tab : rtab .any (opsOf Try.f6 8) = tu_T := by kernel_rfl
theorem tu_bits : waitsOk tu_T.2 tu_B = true := by kernel_rfl
set_option maxHeartbeats 8000000 in
set_option maxRecDepth 100000 in
theorem DriveTurns_law (z0A : Option Addr) (z0c : Nat) (z0l : (List (Int × Int))) (z1f0_n : Int) (z1f1_n : Int) (z1f2_n : Int) (w : World) (h0 : Aside0 (z0l.length ≤ z0c ∧ Kd.C (Kd.pair (Kd.int .i64) (Kd.int .i64)) w z0A z0l.length z0l ∧ (z0l.length ≤ maxLen ∧ ∀ y0_ ∈ z0l, ((Lit.int .i64 y0_.1).wf = true ∧ (Lit.int .i64 y0_.2).wf = true)))) (h1 : Aside0 ((Lit.int .i64 z1f0_n).wf = true ∧ (Lit.int .i64 z1f1_n).wf = true ∧ (Lit.int .i64 z1f2_n).wf = true)) :
    Calls Try.prog 6 #[.slice z0A z0l.length z0c, .agg #[.int .i64 z1f0_n, .int .i64 z1f1_n, .int .i64 z1f2_n]] w fun e w' => e = .returned (.bool true) ∧ Below w.heap.size w w' := by
  have HR := Aside0.mk h0.out.2.1
  have HPR := Aside0.mk (pair_range h0.out.2.2.2)
  have HZR := Aside0.mk (show (_ ∧ _) ∧ (_ ∧ _) ∧ (_ ∧ _) from ⟨i64_range h1.out.1, i64_range h1.out.2.1, i64_range h1.out.2.2⟩)
  clear h0 h1
  obtain ⟨N, hN⟩ : ∃ N, z0l.length = N := ⟨_, rfl⟩
  rw [hN] at HR ⊢
  clear hN
  have HS0 := Aside0.mk ((St.start w).alloc_ #[.int .i64 z1f0_n, .int .i64 z1f1_n, .int .i64 z1f2_n] 45)
  obtain ⟨gb, hgb⟩ : ∃ gb, w.heap.size = gb := ⟨_, rfl⟩
  rw [hgb] at HS0
  go_enter Try.func6, Try.ntmps6
  go_wp2_with fail
  refine (law03_shown.st HS0.out).mono ?_
  rintro e w1 ⟨rfl, hs⟩
  have HS1 := Aside0.mk hs
  clear hs HS0
  go_wp2_with fail
  refine (drive_New.st HS1.out 32).mono ?_
  intro e w2 hp
  rw [NewPost, if_pos (by decide)] at hp
  obtain ⟨g, rfl, hs⟩ := hp
  have HS2 := Aside0.mk (show St w w2 (drv g (newD 32) :: _) from hs)
  clear hs HS1
  go_wp2_with fail
  have HI0 := Aside0.mk TInv.start
  go_loopw [8] (fun ix wr => ∃ (i : Nat) (D : DV), ix = .int .i64 (i : Int) ∧ i ≤ 20 ∧ Aside0 (TInv i D) ∧ Aside0 (St w wr [drv g D, blk gb #[.int .i64 z1f0_n, .int .i64 z1f1_n, .int .i64 z1f2_n] 45])) (fun ix _ => 20 - (intOf ix).toNat)
  case atStart => exact ⟨0, _, rfl, Nat.zero_le _, HI0, HS2⟩
  case round =>
    clear HS2 HI0
    obtain ⟨i, D, rfl, hi, HI, HS⟩ := hrel
    rcases o_both 20 i N with ⟨hN, h20, h1, h2, h3, h4⟩ | ⟨hN, h1, h3⟩ | ⟨hN, h20, h1, h2, h3, h4⟩
    · have HSS : Aside0 (∀ W, Below w.heap.size w W → ∃ ad, z0A = some ad ∧ W.cell? (ad.add (i * 2)) = some (.int .i64 (z0l.getD i (0, 0)).1) ∧ W.cell? ⟨(ad.add (i * 2)).block, (ad.add (i * 2)).off + 1, none⟩ = some (.int .i64 (z0l.getD i (0, 0)).2)) := ⟨fun W hb => pairs_at hb HR.out i hN⟩
      obtain ⟨ad, hA, k0, k1⟩ := HSS.out wr.drew HS.out.drew.below
      subst hA
      have hp := HPR.out i
      obtain ⟨x, hx⟩ : ∃ x, z0l.getD i (0, 0) = x := ⟨_, rfl⟩
      rw [hx] at k0 k1 hp HSS
      obtain ⟨xa, xb⟩ := x
      have HXR := Aside0.mk hp
      have HI20 := Aside0.mk h20
      have HST := Aside0.mk (show D.steps < 1000000 from by have := HI.out.s; omega)
      obtain ⟨kk, hkk, hk32⟩ : ∃ kk : Nat, kindR xa 32 = kk ∧ kk < 32 := ⟨(kindR xa 32).toNat, by have := kindR_range xa 32 (by decide); omega, by have := kindR_range xa 32 (by decide); omega⟩
      have HKK := Aside0.mk hkk
      have HIS := Aside0.mk (isS_in HI.out.n (Int.natCast_nonneg kk) (show (kk : Int) < (32 : Nat) from by omega))
      have HSS : Aside0 (∀ W, Below w.heap.size w W → (fun W : World => W.cell? (ad.add (i * 2)) = some (.int .i64 xa) ∧ W.cell? ⟨(ad.add (i * 2)).block, (ad.add (i * 2)).off + 1, none⟩ = some (.int .i64 xb)) W) := ⟨fun W hb => by
        obtain ⟨ad', hA, q0, q1⟩ := HSS.out W hb
        injection hA with hA
        subst hA
        exact ⟨q0, q1⟩⟩
      have hHeld0 := HSS.out wr.drew HS.out.drew.below
      have HFB := Aside0.mk (show ∀ y ∈ fillS xb, 0 ≤ y ∧ y < 256 from (fillS_ok xb).2)
      have e1 := Aside0.mk (incM i (by omega))
      have HME := Aside0.mk (measM 20 i h20)
      clear hx hp h20 hi hkk hk32 k0 k1
      go_upto_region 8 with fail
      refine stepStartD (fun W : World => W.cell? (ad.add (i * 2)) = some (.int .i64 xa) ∧ W.cell? ⟨(ad.add (i * 2)).block, (ad.add (i * 2)).off + 1, none⟩ = some (.int .i64 xb)) 14 [0, 1, 2, 3, 4, 5, 7, 8, 9, 10, 11, 6, 12, 13] [13] tu_tab tu_bits (by kernel_rfl) rfl hHeld0 (fun HT_ HW_ hHeld => ?_)
      clear hHeld0
      iterate 5 (refine stepPu (v := ?_) rfl rfl (any_of HT_.out (by kernel_rfl)) (fun _ _ _ h => h) (Or.inl ⟨by rfl, ?_⟩) (a' := ?_) ?_ ?_; rotate_left; (· intro w'; go_simp; with_reducible rfl); rotate_left; (· (simp only [Act.put, List.setIfInBounds_toArray, List.set_cons_zero, List.set_cons_succ, i64_w, i32_w]; rfl)))
      (refine stepLd (v := ?_) rfl rfl (take_ofW HT_.out HW_.out (by kernel_rfl)) (fun _ _ _ h => h) (Or.inl ⟨by rfl, ?_⟩) hHeld (a' := ?_) ?_ ?_; rotate_left; (· rintro w' ⟨s0, s1⟩; go_simp; with_reducible rfl); rotate_left; (· (simp only [Act.put, List.setIfInBounds_toArray, List.set_cons_zero, List.set_cons_succ, i64_w, i32_w]; rfl)))
      iterate 4 (refine stepPu (v := ?_) rfl rfl (any_of HT_.out (by kernel_rfl)) (fun _ _ _ h => h) (Or.inl ⟨by rfl, ?_⟩) (a' := ?_) ?_ ?_; rotate_left; (· intro w'; go_simp; with_reducible rfl); rotate_left; (· (simp only [Act.put, List.setIfInBounds_toArray, List.set_cons_zero, List.set_cons_succ, i64_w, i32_w]; rfl)))
      (refine stepLd (v := ?_) rfl rfl (take_ofW HT_.out HW_.out (by kernel_rfl)) (fun _ _ _ h => h) (Or.inl ⟨by rfl, ?_⟩) hHeld (a' := ?_) ?_ ?_; rotate_left; (· rintro w' ⟨s0, s1⟩; go_simp; with_reducible rfl); rotate_left; (· (simp only [Act.put, List.setIfInBounds_toArray, List.set_cons_zero, List.set_cons_succ, i64_w, i32_w]; rfl)))
      refine stepOne rfl rfl (one_of HT_.out (by kernel_rfl)) (by decide) (fun K hK => ?_)
      refine goes_ Try.func11 (by kernel_rfl) rfl #[.int .i64 xa, .int .i64 32] (by rfl) rfl rfl (by first | rfl | (simp only [List.map_toArray, List.map_cons, List.map_nil]; rfl)) ?_
      with_reducible refine (law03_kind.st xa 32 HXR.out.1 (by decide) (by decide) _).mono ?_
      rintro e w' ⟨rfl, rfl⟩
      rw [HKK.out]
      refine ⟨_, rfl, ?_⟩
      refine hK.out _ _ (hHeld) (fun hHeld => ?_)
      clear hK K
      refine norm_ (a' := ?_) ?_ ?_
      rotate_left
      · show Act.put _ (some 48) _ = _
        simp only [Act.put, List.setIfInBounds_toArray, List.set_cons_zero, List.set_cons_succ, i64_w, i32_w]
        rfl
      refine stepOne rfl rfl (one_of HT_.out (by kernel_rfl)) (by decide) (fun K hK => ?_)
      refine goes_ Try.func13 (by kernel_rfl) rfl #[.int .i64 xb] (by rfl) rfl rfl (by first | rfl | (simp only [List.map_toArray, List.map_cons, List.map_nil]; rfl)) ?_
      with_reducible refine (law03_filled.st HS.out.drew xb).mono ?_
      rintro e x1 ⟨q1, rfl, hs⟩
      refine ⟨_, rfl, ?_⟩
      have HF1 := Aside0.mk (St.swap hs)
      clear hs
      refine hK.out _ _ (HSS.out _ HF1.out.below) (fun hHeld => ?_)
      clear hK K
      refine norm_ (a' := ?_) ?_ ?_
      rotate_left
      · show Act.put _ (some 54) _ = _
        simp only [Act.put, List.setIfInBounds_toArray, List.set_cons_zero, List.set_cons_succ, i64_w, i32_w]
        rfl
      refine stepLast rfl rfl (one_of HT_.out (by kernel_rfl)) (by decide) (fun K hK => ?_)
      refine goes_ Try.func12 (by kernel_rfl) rfl #[.pointer (some ⟨g, 0, none⟩), .int .i64 (kk : Int), .slice (some ⟨q1, 0, none⟩) 256 256] (by rfl) rfl rfl (by first | rfl | (simp only [List.map_toArray, List.map_cons, List.map_nil]; rfl)) ?_
      with_reducible refine (drive_Write.st HF1.out (kk : Int) HFB.out HST.out).mono ?_
      intro e x2 hp
      rw [WritePost, if_pos ⟨HIS.out, (fillS_ok xb).1⟩, if_pos HI.out.free, Int.toNat_natCast] at hp
      obtain ⟨rfl, hs⟩ := hp
      refine ⟨_, rfl, ?_⟩
      have HS6 := Aside0.mk (St.drop (St.swap hs))
      clear hs
      refine hK.out _ _ ?_
      clear hK K
      refine done_ (done_of HT_.out (by kernel_rfl)) ?_
      clear HT_ HW_ hHeld
      simp only [Act.put]
      go_wp2_with fail
      go_roundw
      case rel => exact ⟨i + 1, _, by first | rfl | rw [e1.out], HI20.out, ⟨HI.out.put _ _⟩, HS6⟩
      case measure => exact HME.out _ (by first | rfl | exact e1.out)
    · clear hi
      clear h1 h3
      obtain ⟨⟨r0a, r0b⟩, ⟨r1a, r1b⟩, r2a, r2b⟩ := HZR.out
      obtain ⟨s, hs_, hs32⟩ : ∃ s : Nat, kindR z1f0_n 32 = s ∧ s < 32 := ⟨(kindR z1f0_n 32).toNat, by have := kindR_range z1f0_n 32 (by decide); omega, by have := kindR_range z1f0_n 32 (by decide); omega⟩
      obtain ⟨j, hj_, hj256⟩ : ∃ j : Nat, kindR z1f1_n 256 = j ∧ j < 256 := ⟨(kindR z1f1_n 256).toNat, by have := kindR_range z1f1_n 256 (by decide); omega, by have := kindR_range z1f1_n 256 (by decide); omega⟩
      obtain ⟨m, hm_⟩ : ∃ m, kindR z1f2_n 256 = m := ⟨_, rfl⟩
      have HM := Aside0.mk (show 0 ≤ m ∧ m < 256 from hm_ ▸ kindR_range z1f2_n 256 (by decide))
      have b0 := blk_cell HS.out.swap.blk_is 0
      have b1 := blk_cell HS.out.swap.blk_is 1
      have b2 := blk_cell HS.out.swap.blk_is 2
      have HS_ := Aside0.mk hs_
      have HJ_ := Aside0.mk hj_
      have HM_ := Aside0.mk hm_
      have HS32 := Aside0.mk hs32
      have HJ256 := Aside0.mk hj256
      have HIS := Aside0.mk (isS_in HI.out.n (Int.natCast_nonneg s) (show (s : Int) < (32 : Nat) from by omega))
      clear hs_ hj_ hm_ hs32 hj256 r0a r0b r1a r1b r2a r2b
      go_wp2_with fail
      refine (law03_kind.st z1f0_n 32 HZR.out.1 (by decide) (by decide) _).mono ?_
      rintro e w' ⟨rfl, rfl⟩
      rw [HS_.out]
      go_wp2_with fail
      refine (law03_kind.st z1f1_n 256 HZR.out.2.1 (by decide) (by decide) _).mono ?_
      rintro e w' ⟨rfl, rfl⟩
      rw [HJ_.out]
      go_wp2_with fail
      refine (law03_kind.st z1f2_n 256 HZR.out.2.2 (by decide) (by decide) _).mono ?_
      rintro e w' ⟨rfl, rfl⟩
      rw [HM_.out]
      clear b0 b1 b2
      go_wp2_with fail
      refine (drive_Read.st HS.out (s : Int)).mono ?_
      intro e w5 hp
      rw [ReadPost, if_neg (by rw [HI.out.o]; decide), if_neg (by rw [HIS.out]; decide), Int.toNat_natCast] at hp
      obtain ⟨f5, rfl, hs⟩ := hp
      have HX0 := Aside0.mk (drv_sec HS.out s (by rw [HI.out.n]; exact HS32.out))
      have HL2 := Aside0.mk (lastS_corrupt D s j m (by rw [HI.out.n]; exact HS32.out) (by rw [HI.out.t]; exact HS32.out))
      have HI2 := Aside0.mk (HI.out.corrupt s j m)
      have HL3 := Aside0.mk (lastS_corrupt (corruptD D s j m) s j m (by rw [HI2.out.n]; exact HS32.out) (by rw [HI2.out.t]; exact HS32.out))
      have HI3 := Aside0.mk (HI2.out.corrupt s j m)
      rw [HL2.out] at HL3
      obtain ⟨x0, hx0⟩ : ∃ x0, lastS D s = x0 := ⟨_, rfl⟩
      rw [hx0] at hs HX0 HL2 HL3
      rw [turnS_twice HJ256.out HM.out HX0.out] at HL3
      have HS5 := Aside0.mk (St.swap hs)
      clear hs hx0 HS
      go_wp2_with fail
      refine (drive_Corrupt.st HS5.out (s : Int) (j : Int) m).mono ?_
      intro e w6 hp
      obtain ⟨rfl, hs⟩ := hp.1 ⟨HIS.out, ⟨Int.natCast_nonneg j, by have := HJ256.out; omega⟩, HM.out.1, by have := HM.out.2; omega⟩
      rw [Int.toNat_natCast, Int.toNat_natCast] at hs
      have HS6 := Aside0.mk hs
      clear hs hp HS5
      go_wp2_with fail
      refine (drive_Read.st HS6.out (s : Int)).mono ?_
      intro e w7 hp
      rw [ReadPost, if_neg (by rw [HI2.out.o]; decide), if_neg (by rw [isS_in HI2.out.n (Int.natCast_nonneg s) (by have := HS32.out; omega)]; decide), Int.toNat_natCast, HL2.out] at hp
      obtain ⟨f7, rfl, hs⟩ := hp
      have HS7 := Aside0.mk (St.swap hs)
      clear hs HS6
      go_wp2_with fail
      go_loop [17] (fun ix => ∃ k : Nat, ix = .int .i64 (k : Int) ∧ k ≤ 256) (fun ix => 256 - (intOf ix).toNat)
      case atStart => exact ⟨0, rfl, Nat.zero_le _⟩
      case round =>
        obtain ⟨k, rfl, hk⟩ := hrel
        by_cases hk : k < 256
        · have h1 : decide ((k : Int) < 256) = true := decide_eq_true (by omega)
          have h2 : (k : Int) < 256 := by omega
          have HK := Aside0.mk hk
          have e2 := Aside0.mk (incM k (by omega))
          have HM2 := Aside0.mk (measM 256 k hk)
          have c7 := byte_at HS7.out.swap k hk
          have c5 := byte_at (HS7.out.front 2) k hk
          rw [turnS_at j m x0 HX0.out.1 k hk] at c7
          obtain ⟨y, hy⟩ : ∃ y, x0.getD k 0 = y := ⟨_, rfl⟩
          rw [hy] at c5 c7
          by_cases hkj : k = j
          · rw [if_pos hkj] at c7
            subst hkj
            unfold xorB at c7
            have hwm : IntKind.u8.wrap m = m := by have := HM.out; rw [IntKind.wrap_u8']; omega
            clear hk hy
            go_wp2_with fail
            go_round
            case rel => exact ⟨k + 1, by first | rfl | rw [e2.out], HK.out⟩
            case measure => exact HM2.out _ (by first | rfl | exact e2.out)
          · have h3 : ((k : Int) == (j : Int)) = false := by simp; omega
            have h3p : ¬ (k : Int) = (j : Int) := by omega
            rw [if_neg hkj] at c7
            clear hk hkj hy
            go_wp2_with fail
            go_round
            case rel => exact ⟨k + 1, by first | rfl | rw [e2.out], HK.out⟩
            case measure => exact HM2.out _ (by first | rfl | exact e2.out)
        · have h1 : decide ((k : Int) < 256) = false := decide_eq_false (by omega)
          have h2 : ¬ (k : Int) < 256 := by omega
          clear hk
          go_wp2_with fail
          refine (drive_Corrupt.st HS7.out (s : Int) (j : Int) m).mono ?_
          intro e w8 hp
          obtain ⟨rfl, hs⟩ := hp.1 ⟨isS_in HI2.out.n (Int.natCast_nonneg s) (by have := HS32.out; omega), ⟨Int.natCast_nonneg j, by have := HJ256.out; omega⟩, HM.out.1, by have := HM.out.2; omega⟩
          rw [Int.toNat_natCast, Int.toNat_natCast] at hs
          have HS8 := Aside0.mk hs
          clear hs hp HS7
          go_wp2_with fail
          refine (drive_Read.st HS8.out (s : Int)).mono ?_
          intro e w9 hp
          rw [ReadPost, if_neg (by rw [HI3.out.o]; decide), if_neg (by rw [isS_in HI3.out.n (Int.natCast_nonneg s) (by have := HS32.out; omega)]; decide), Int.toNat_natCast, HL3.out] at hp
          obtain ⟨f9, rfl, hs⟩ := hp
          have HS9 := Aside0.mk hs
          have t9 : (convert 33 9 (.slice (some ⟨f9, 0, none⟩) 256 256)).run Try.prog w9 = .ok (.string (strOfNums x0)) w9 := bytes_run HS9.out
          have t5 : (convert 33 9 (.slice (some ⟨f5, 0, none⟩) 256 256)).run Try.prog w9 = .ok (.string (strOfNums x0)) w9 := bytes_run (HS9.out.front 3)
          clear hs HS8
          go_wp2
          go_ret
          exact ⟨rfl, HS9.out.below⟩
    · clear hi
      clear h1 h2 h3 h4
      obtain ⟨⟨r0a, r0b⟩, ⟨r1a, r1b⟩, r2a, r2b⟩ := HZR.out
      obtain ⟨s, hs_, hs32⟩ : ∃ s : Nat, kindR z1f0_n 32 = s ∧ s < 32 := ⟨(kindR z1f0_n 32).toNat, by have := kindR_range z1f0_n 32 (by decide); omega, by have := kindR_range z1f0_n 32 (by decide); omega⟩
      obtain ⟨j, hj_, hj256⟩ : ∃ j : Nat, kindR z1f1_n 256 = j ∧ j < 256 := ⟨(kindR z1f1_n 256).toNat, by have := kindR_range z1f1_n 256 (by decide); omega, by have := kindR_range z1f1_n 256 (by decide); omega⟩
      obtain ⟨m, hm_⟩ : ∃ m, kindR z1f2_n 256 = m := ⟨_, rfl⟩
      have HM := Aside0.mk (show 0 ≤ m ∧ m < 256 from hm_ ▸ kindR_range z1f2_n 256 (by decide))
      have b0 := blk_cell HS.out.swap.blk_is 0
      have b1 := blk_cell HS.out.swap.blk_is 1
      have b2 := blk_cell HS.out.swap.blk_is 2
      have HS_ := Aside0.mk hs_
      have HJ_ := Aside0.mk hj_
      have HM_ := Aside0.mk hm_
      have HS32 := Aside0.mk hs32
      have HJ256 := Aside0.mk hj256
      have HIS := Aside0.mk (isS_in HI.out.n (Int.natCast_nonneg s) (show (s : Int) < (32 : Nat) from by omega))
      clear hs_ hj_ hm_ hs32 hj256 r0a r0b r1a r1b r2a r2b
      go_wp2_with fail
      refine (law03_kind.st z1f0_n 32 HZR.out.1 (by decide) (by decide) _).mono ?_
      rintro e w' ⟨rfl, rfl⟩
      rw [HS_.out]
      go_wp2_with fail
      refine (law03_kind.st z1f1_n 256 HZR.out.2.1 (by decide) (by decide) _).mono ?_
      rintro e w' ⟨rfl, rfl⟩
      rw [HJ_.out]
      go_wp2_with fail
      refine (law03_kind.st z1f2_n 256 HZR.out.2.2 (by decide) (by decide) _).mono ?_
      rintro e w' ⟨rfl, rfl⟩
      rw [HM_.out]
      clear b0 b1 b2
      go_wp2_with fail
      refine (drive_Read.st HS.out (s : Int)).mono ?_
      intro e w5 hp
      rw [ReadPost, if_neg (by rw [HI.out.o]; decide), if_neg (by rw [HIS.out]; decide), Int.toNat_natCast] at hp
      obtain ⟨f5, rfl, hs⟩ := hp
      have HX0 := Aside0.mk (drv_sec HS.out s (by rw [HI.out.n]; exact HS32.out))
      have HL2 := Aside0.mk (lastS_corrupt D s j m (by rw [HI.out.n]; exact HS32.out) (by rw [HI.out.t]; exact HS32.out))
      have HI2 := Aside0.mk (HI.out.corrupt s j m)
      have HL3 := Aside0.mk (lastS_corrupt (corruptD D s j m) s j m (by rw [HI2.out.n]; exact HS32.out) (by rw [HI2.out.t]; exact HS32.out))
      have HI3 := Aside0.mk (HI2.out.corrupt s j m)
      rw [HL2.out] at HL3
      obtain ⟨x0, hx0⟩ : ∃ x0, lastS D s = x0 := ⟨_, rfl⟩
      rw [hx0] at hs HX0 HL2 HL3
      rw [turnS_twice HJ256.out HM.out HX0.out] at HL3
      have HS5 := Aside0.mk (St.swap hs)
      clear hs hx0 HS
      go_wp2_with fail
      refine (drive_Corrupt.st HS5.out (s : Int) (j : Int) m).mono ?_
      intro e w6 hp
      obtain ⟨rfl, hs⟩ := hp.1 ⟨HIS.out, ⟨Int.natCast_nonneg j, by have := HJ256.out; omega⟩, HM.out.1, by have := HM.out.2; omega⟩
      rw [Int.toNat_natCast, Int.toNat_natCast] at hs
      have HS6 := Aside0.mk hs
      clear hs hp HS5
      go_wp2_with fail
      refine (drive_Read.st HS6.out (s : Int)).mono ?_
      intro e w7 hp
      rw [ReadPost, if_neg (by rw [HI2.out.o]; decide), if_neg (by rw [isS_in HI2.out.n (Int.natCast_nonneg s) (by have := HS32.out; omega)]; decide), Int.toNat_natCast, HL2.out] at hp
      obtain ⟨f7, rfl, hs⟩ := hp
      have HS7 := Aside0.mk (St.swap hs)
      clear hs HS6
      go_wp2_with fail
      go_loop [17] (fun ix => ∃ k : Nat, ix = .int .i64 (k : Int) ∧ k ≤ 256) (fun ix => 256 - (intOf ix).toNat)
      case atStart => exact ⟨0, rfl, Nat.zero_le _⟩
      case round =>
        obtain ⟨k, rfl, hk⟩ := hrel
        by_cases hk : k < 256
        · have h1 : decide ((k : Int) < 256) = true := decide_eq_true (by omega)
          have h2 : (k : Int) < 256 := by omega
          have HK := Aside0.mk hk
          have e2 := Aside0.mk (incM k (by omega))
          have HM2 := Aside0.mk (measM 256 k hk)
          have c7 := byte_at HS7.out.swap k hk
          have c5 := byte_at (HS7.out.front 2) k hk
          rw [turnS_at j m x0 HX0.out.1 k hk] at c7
          obtain ⟨y, hy⟩ : ∃ y, x0.getD k 0 = y := ⟨_, rfl⟩
          rw [hy] at c5 c7
          by_cases hkj : k = j
          · rw [if_pos hkj] at c7
            subst hkj
            unfold xorB at c7
            have hwm : IntKind.u8.wrap m = m := by have := HM.out; rw [IntKind.wrap_u8']; omega
            clear hk hy
            go_wp2_with fail
            go_round
            case rel => exact ⟨k + 1, by first | rfl | rw [e2.out], HK.out⟩
            case measure => exact HM2.out _ (by first | rfl | exact e2.out)
          · have h3 : ((k : Int) == (j : Int)) = false := by simp; omega
            have h3p : ¬ (k : Int) = (j : Int) := by omega
            rw [if_neg hkj] at c7
            clear hk hkj hy
            go_wp2_with fail
            go_round
            case rel => exact ⟨k + 1, by first | rfl | rw [e2.out], HK.out⟩
            case measure => exact HM2.out _ (by first | rfl | exact e2.out)
        · have h1 : decide ((k : Int) < 256) = false := decide_eq_false (by omega)
          have h2 : ¬ (k : Int) < 256 := by omega
          clear hk
          go_wp2_with fail
          refine (drive_Corrupt.st HS7.out (s : Int) (j : Int) m).mono ?_
          intro e w8 hp
          obtain ⟨rfl, hs⟩ := hp.1 ⟨isS_in HI2.out.n (Int.natCast_nonneg s) (by have := HS32.out; omega), ⟨Int.natCast_nonneg j, by have := HJ256.out; omega⟩, HM.out.1, by have := HM.out.2; omega⟩
          rw [Int.toNat_natCast, Int.toNat_natCast] at hs
          have HS8 := Aside0.mk hs
          clear hs hp HS7
          go_wp2_with fail
          refine (drive_Read.st HS8.out (s : Int)).mono ?_
          intro e w9 hp
          rw [ReadPost, if_neg (by rw [HI3.out.o]; decide), if_neg (by rw [isS_in HI3.out.n (Int.natCast_nonneg s) (by have := HS32.out; omega)]; decide), Int.toNat_natCast, HL3.out] at hp
          obtain ⟨f9, rfl, hs⟩ := hp
          have HS9 := Aside0.mk hs
          have t9 : (convert 33 9 (.slice (some ⟨f9, 0, none⟩) 256 256)).run Try.prog w9 = .ok (.string (strOfNums x0)) w9 := bytes_run HS9.out
          have t5 : (convert 33 9 (.slice (some ⟨f5, 0, none⟩) 256 256)).run Try.prog w9 = .ok (.string (strOfNums x0)) w9 := bytes_run (HS9.out.front 3)
          clear hs HS8
          go_wp2
          go_ret
          exact ⟨rfl, HS9.out.below⟩
end Go.Proofs.Ytoloibjdiojmlaa.P
