/- DriveReads' walk. -/
import Derived.Test.YtoloibjdiojmlaaFuses
namespace Go.Proofs.Ytoloibjdiojmlaa.P
open Go.RowKit Go.Proofs.YtoloibjdiojmlaaW.PrintWords Go.Proofs.YtoloibjdiojmlaaW.PrintLast Go.Proofs.YtoloibjdiojmlaaW.PrintMore Go.Proofs.Ytoloibjdiojmlaa.Sep
set_option linter.unusedVariables false
set_option linter.unusedSimpArgs false
attribute [local go_sem] max2_int min2_int max_two min_two max_three min_three max_four min_four
theorem lastS_flush (D : DV) (h : D.ts.length = D.hs.length) (k : Nat) (hk : k < D.hs.length) : lastS (flushD D) k = lastS D k := by
  unfold lastS flushD
  have e1 : (List.map (fun x => ([] : List (List Int))) D.ts).getD k [] = [] := by
    rw [List.getD_eq_getElem?_getD, List.getElem?_map]
    cases D.ts[k]? <;> rfl
  have e2 : (List.map (lastS D) (List.range D.hs.length)).getD k [] = lastS D k := by
    rw [List.getD_eq_getElem?_getD, List.getElem?_map, List.getElem?_range hk]
    rfl
  simp only [e1, e2]
  rfl
theorem lastS_put (D : DV) (h : D.ts.length = D.hs.length) (s : Nat) (hs : s < D.hs.length) (x : List Int) (k : Nat) : lastS (putD D s x) k = if k = s then x else lastS D k := by
  unfold lastS putD
  dsimp only
  by_cases hk : k = s
  · subst hk
    rw [if_pos rfl]
    have e1 : (D.ts.set k (D.ts.getD k [] ++ [x])).getD k [] = D.ts.getD k [] ++ [x] := by
      rw [List.getD_eq_getElem?_getD (l := List.set _ _ _), List.getElem?_set_self (by omega)]
      rfl
    simp only [e1]
    rw [List.getLast_cons (by simp)]
    simp
  · rw [if_neg hk]
    have e1 : (D.ts.set s (D.ts.getD s [] ++ [x])).getD k [] = D.ts.getD k [] := by
      rw [List.getD_eq_getElem?_getD, List.getElem?_set_ne (fun q => hk q.symm), ← List.getD_eq_getElem?_getD]
    simp only [e1]
structure ReadsInv (i : Nat) (nw : List Int) (D : DV) : Prop where
  n : D.hs.length = 32
  t : D.ts.length = 32
  o : D.off = false
  f : D.fuse = -1
  s : D.steps = i
  l : nw.length = 32
  e : ∀ k, k < 32 → lastS D k = fillS (nw.getD k 0)
namespace ReadsInv
variable {i : Nat} {nw : List Int} {D : DV}
theorem free (h : ReadsInv i nw D) : stepE D = 0 := by
  unfold stepE
  rw [if_neg (by rw [h.o, h.f]; decide)]
theorem step (h : ReadsInv i nw D) : stepD D = { D with steps := i + 1 } := by
  unfold stepD
  rw [if_neg (by rw [h.o, h.f]; decide), if_neg (by rw [h.f]; decide), h.s]
theorem flush (h : ReadsInv i nw D) : ReadsInv (i + 1) nw (flushD (stepD D)) := by
  rw [h.step]
  refine ⟨by unfold flushD; simp [h.n], by unfold flushD; simp [h.t], h.o, h.f, rfl, h.l, fun k hk => ?_⟩
  rw [lastS_flush _ (by show D.ts.length = D.hs.length; rw [h.t, h.n]) k (by show k < D.hs.length; rw [h.n]; exact hk)]
  exact h.e k hk
theorem put (h : ReadsInv i nw D) (s : Nat) (hs : s < 32) (c : Int) : ReadsInv (i + 1) (nw.set s c) (putD (stepD D) s (fillS c)) := by
  rw [h.step]
  refine ⟨h.n, by unfold putD; simp [h.t], h.o, h.f, rfl, by rw [List.length_set]; exact h.l, fun k hk => ?_⟩
  rw [lastS_put _ (by show D.ts.length = D.hs.length; rw [h.t, h.n]) s (by show s < D.hs.length; rw [h.n]; exact hs)]
  rw [List.getD_eq_getElem?_getD]
  by_cases hks : k = s
  · subst hks
    rw [if_pos rfl, List.getElem?_set_self (by rw [h.l]; exact hs)]
    rfl
  · rw [if_neg hks, List.getElem?_set_ne (fun q => hks q.symm), ← List.getD_eq_getElem?_getD]
    exact h.e k hk
theorem start : ReadsInv 0 (List.replicate 32 0) (newD 32) := by
  refine ⟨by unfold newD; rw [List.length_replicate], by unfold newD; rw [List.length_replicate], rfl, rfl, rfl, by rw [List.length_replicate], fun k hk => ?_⟩
  have e1 : (newD 32).ts.getD k [] = [] := by unfold newD; rw [List.getD_eq_getElem?_getD, List.getElem?_replicate]; split <;> rfl
  have e2 : (newD 32).hs.getD k [] = zSec := by unfold newD; rw [List.getD_eq_getElem?_getD, List.getElem?_replicate, if_pos hk]; rfl
  unfold lastS
  simp only [e1, e2]
  have e3 : (List.replicate 32 (0 : Int)).getD k 0 = 0 := by rw [List.getD_eq_getElem?_getD, List.getElem?_replicate, if_pos hk]; rfl
  rw [e3]
  rfl
end ReadsInv
theorem flush_cnt (D : DV) : cntT (flushD D).ts = 0 := cnt_nil _
abbrev nowC (l : List Int) : Array Value := (encs (Value.int .i64) l).toArray
theorem nowC_one (l : List Int) (v : Value) (hv : v ∈ (nowC l).toList) : v.oneCell' = true := by
  have hv : v ∈ l.map (Value.int .i64) := hv
  obtain ⟨_, _, rfl⟩ := List.mem_map.1 hv
  rfl
section
variable {w0 w : World} {ps : List HP} {gb t : Nat} {l : List Int}
theorem now_cell (h : St w0 w (blk gb (nowC l) t :: ps)) (k : Nat) (hk : k < l.length) : w.cell? ⟨gb, k, none⟩ = some (.int .i64 (l.getD k 0)) := by
  rw [blk_cell h.blk_is k]
  show (l.map (Value.int .i64)).toArray[k]? = _
  rw [List.getElem?_toArray, List.getElem?_map, List.getElem?_eq_getElem hk, List.getD_eq_getElem?_getD, List.getElem?_eq_getElem hk]
  rfl
theorem now_set (h : St w0 w (blk gb (nowC l) t :: ps)) (k : Nat) (v : Int) : St w0 (w.setCell ⟨gb, k, none⟩ (.int .i64 v)) (blk gb (nowC (l.set k v)) t :: ps) := by
  have h1 := h.blk_set k (.int .i64 v)
  rwa [show (nowC l).setIfInBounds k (.int .i64 v) = nowC (l.set k v) from by
    apply Array.ext'
    rw [Array.toList_setIfInBounds]
    show (l.map (Value.int .i64)).set k _ = (l.set k v).map _
    rw [List.map_set]] at h1
end
def rd_T : Bool × List (List Nat × List Nat) := (true, [([], []), ([0], [0]), ([1], [1]), ([2], [2]), ([3, 2], [2, 3]), ([2], [2]), ([5, 2], [2, 5]), ([6, 2], [2, 6]), ([7, 2, 2], [2, 7]), ([8, 2], [2, 8]), ([4, 9, 2], [2, 4, 9]), ([2, 10], [2, 10])])
def rd_B : List Nat := [0, 1, 3, 7, 15, 7, 39, 103, 231, 487, 1023, 2047]
theorem rd_tab : rtab .any (opsOf Try.f5 20) = rd_T := by kernel_rfl
theorem rd_bits : waitsOk rd_T.2 rd_B = true := by kernel_rfl
set_option maxHeartbeats 8000000 in
set_option maxRecDepth 100000 in
theorem DriveReads_law (z0A : Option Addr) (z0c : Nat) (z0l : (List (Int × Int))) (w : World) (h0 : Aside0 (z0l.length ≤ z0c ∧ Kd.C (Kd.pair (Kd.int .i64) (Kd.int .i64)) w z0A z0l.length z0l ∧ (z0l.length ≤ maxLen ∧ ∀ y0_ ∈ z0l, ((Lit.int .i64 y0_.1).wf = true ∧ (Lit.int .i64 y0_.2).wf = true)))) :
    Calls Try.prog 5 #[.slice z0A z0l.length z0c] w fun e w' => e = .returned (.bool true) ∧ Below w.heap.size w w' := by
  have HR := Aside0.mk h0.out.2.1
  have HPR := Aside0.mk (pair_range h0.out.2.2.2)
  clear h0
  obtain ⟨N, hN⟩ : ∃ N, z0l.length = N := ⟨_, rfl⟩
  rw [hN] at HR ⊢
  clear hN
  go_enter Try.func5, Try.ntmps5
  go_wp2_with fail
  refine (law03_shown.st (St.start w)).mono ?_
  rintro e w1 ⟨rfl, hs⟩
  have HS1 := Aside0.mk hs
  clear hs
  go_wp2_with fail
  refine (drive_New.st HS1.out 32).mono ?_
  intro e w2 hp
  rw [NewPost, if_pos (by decide)] at hp
  obtain ⟨g, rfl, hs⟩ := hp
  have HS2 := Aside0.mk (show St w w2 (drv g (newD 32) :: _) from hs)
  clear hs HS1
  obtain ⟨Z, hZ⟩ : ∃ Z : Array Value, Z = nowC (List.replicate 32 0) := ⟨_, rfl⟩
  have HZ := Aside0.mk hZ
  have hzv : ∀ W : World, (zeroValue 43).run Try.prog W = .ok (.agg Z) W := fun W => by rw [hZ]; kernel_rfl
  have HA := Aside0.mk (HS2.out.alloc_ Z 43)
  have HA2 := Aside0.mk (St.blk_row HA.out Z)
  clear hZ
  go_wp2_with (refine Own.wpList_store_row rfl 43 _ _ rfl w2.heap.size rfl Z rfl 43 _ HA.out.blk_is (by rw [HZ.out]; kernel_rfl) rfl (fun v hv => by rw [HZ.out] at hv; exact nowC_one _ v hv) ?_)
  rw [HZ.out] at HA2
  have HI0 := Aside0.mk ReadsInv.start
  obtain ⟨gb, hgb⟩ : ∃ gb, w2.heap.size = gb := ⟨_, rfl⟩
  obtain ⟨W3, hW3⟩ : ∃ W, (w2.alloc (.cells Z 43)).setRow gb Z = W := ⟨_, rfl⟩
  rw [hgb, ← HZ.out, hW3, HZ.out] at HA2
  rw [hgb, hW3]
  clear hW3 hzv HA HS2
  go_loopw [7] (fun ix wr => ∃ (i : Nat) (nw : List Int) (D : DV), ix = .int .i64 (i : Int) ∧ i ≤ 40 ∧ i ≤ N ∧ Aside0 (ReadsInv i nw D) ∧ Aside0 (St w wr [blk gb (nowC nw) 43, drv g D])) (fun ix _ => 40 - (intOf ix).toNat)
  case atStart => exact ⟨0, _, _, rfl, Nat.zero_le _, Nat.zero_le _, HI0, HA2⟩
  case round =>
    clear HI0 HA2
    obtain ⟨i, nw, D, rfl, hi, hiN, HI, HS⟩ := hrel
    rcases o_both 40 i N with ⟨hN, h40, h1, h2, h3, h4⟩ | ⟨hN, h1, h3⟩ | ⟨hN, h40, h1, h2, h3, h4⟩
    · obtain ⟨ad, hA, k0, k1⟩ := pairs_at HS.out.below HR.out i hN
      subst hA
      have hp := HPR.out i
      obtain ⟨x, hx⟩ : ∃ x, z0l.getD i (0, 0) = x := ⟨_, rfl⟩
      rw [hx] at k0 k1 hp
      obtain ⟨xa, xb⟩ := x
      have HXR := Aside0.mk hp
      have HI40 := Aside0.mk (show i < 40 ∧ i < N from ⟨h40, hN⟩)
      clear hx hp hN h40 hi hiN
      go_wp2_with fail
      refine (law03_kind.st xa 40 HXR.out.1 (by decide) (by decide) _).mono ?_
      rintro e w' ⟨rfl, rfl⟩
      obtain ⟨kk, hkk, hk40⟩ : ∃ kk : Nat, kindR xa 40 = kk ∧ kk < 40 := ⟨(kindR xa 40).toNat, by have := kindR_range xa 40 (by decide); omega, by have := kindR_range xa 40 (by decide); omega⟩
      rw [hkk]
      clear hkk
      have HK40 := Aside0.mk hk40
      have HST := Aside0.mk (show D.steps < 1000000 from by have := HI.out.s; have := HI40.out; omega)
      go_upto_if 41 with fail
      go_cut [] (fun wx => ∃ (nw' : List Int) (D' : DV), Aside0 (ReadsInv (i + 1) nw' D') ∧ Aside0 (St w wx [blk gb (nowC nw') 43, drv g D']))
      case first =>
        by_cases hk : kk < 32
        · have h5 : decide ((kk : Int) ≥ 32) = false := decide_eq_false (by omega)
          have h6 : (kk : Int) < 32 := by omega
          have HKK := Aside0.mk hk
          have HIS := Aside0.mk (isS_in HI.out.n (Int.natCast_nonneg kk) (show (kk : Int) < (32 : Nat) from by omega))
          have HFR := Aside0.mk (blk_frozen HS.out.blk_is kk)
          have HCL := Aside0.mk (now_cell HS.out kk (by rw [HI.out.l]; exact hk))
          have c0 := HCL.out
          have f0 := HFR.out
          clear hk k0
          go_wp2_with fail
          refine (law03_kind.st xb 256 HXR.out.2 (by decide) (by decide) _).mono ?_
          rintro e w' ⟨rfl, rfl⟩
          obtain ⟨v, hv⟩ : ∃ v, kindR xb 256 = v := ⟨_, rfl⟩
          rw [hv]
          clear hv
          have HS4 := Aside0.mk (now_set HS.out kk v)
          have c1 := now_cell HS4.out kk (by rw [List.length_set, HI.out.l]; exact HKK.out)
          rw [show (nw.set kk v).getD kk 0 = v from by rw [List.getD_eq_getElem?_getD, List.getElem?_set_self (by rw [HI.out.l]; exact HKK.out)]; rfl] at c1
          go_wp2_with fail
          refine (law03_filled.st HS4.out v).mono ?_
          rintro e w5 ⟨f5, rfl, hs⟩
          have HS5 := Aside0.mk (St.front 2 hs)
          clear hs HS4
          go_wp2_with fail
          refine (drive_Write.st HS5.out (kk : Int) (fillS_ok v).2 HST.out).mono ?_
          intro e w6 hp
          rw [WritePost, if_pos ⟨HIS.out, (fillS_ok v).1⟩, if_pos HI.out.free, Int.toNat_natCast] at hp
          obtain ⟨rfl, hs⟩ := hp
          have HS6 := Aside0.mk (St.swap (St.drop (St.swap hs)))
          clear hs
          go_wp2_with fail
          go_meet
          exact ⟨_, _, ⟨HI.out.put kk HKK.out v⟩, HS6⟩
        · have h5 : decide ((kk : Int) ≥ 32) = true := decide_eq_true (by omega)
          have h6 : ¬ (kk : Int) < 32 := by omega
          have h7 : (32 : Int) ≤ (kk : Int) := by omega
          clear hk k0 k1
          go_wp2_with fail
          refine (drive_Flush.st HS.out.swap HST.out).mono ?_
          intro e w5 hp
          rw [FlushPost, if_pos HI.out.free] at hp
          obtain ⟨rfl, hs⟩ := hp
          have HS5 := Aside0.mk hs
          clear hs
          go_wp2_with fail
          refine (drive_Cached.st HS5.out).mono ?_
          rintro e w' ⟨rfl, rfl⟩
          rw [flush_cnt]
          go_wp2_with fail
          go_meet
          exact ⟨_, _, ⟨HI.out.flush⟩, ⟨St.swap HS5.out⟩⟩
      case rest =>
        obtain ⟨nw', D', HI', HS'⟩ := hcut
        clear HS HI k0 k1 h1 h2 h3 h4
        have e1 := Aside0.mk (incM i (by have := HI40.out; omega))
        have HME := Aside0.mk (measM 40 i HI40.out.1)
        go_wp2_with fail
        go_loopw [9] (fun kx wr => ∃ k : Nat, kx = .int .i64 (k : Int) ∧ k ≤ 32 ∧ Aside0 (St w wr [blk gb (nowC nw') 43, drv g D'])) (fun kx _ => 32 - (intOf kx).toNat)
        case atStart => exact ⟨0, rfl, Nat.zero_le _, HS'⟩
        case round =>
          clear HS'
          obtain ⟨k, rfl, hk, HS⟩ := hrel
          by_cases hk : k < 32
          · have h1 : decide ((k : Int) < 32) = true := decide_eq_true (by omega)
            have h2 : (k : Int) < 32 := by omega
            have HK := Aside0.mk hk
            have e2 := Aside0.mk (incM k (by omega))
            have HM2 := Aside0.mk (measM 32 k hk)
            go_wp2_with fail
            refine (drive_Read.st HS.out.swap (k : Int)).mono ?_
            intro e w5 hp
            rw [ReadPost, if_neg (by rw [HI'.out.o]; decide), if_neg (by rw [isS_in HI'.out.n (Int.natCast_nonneg k) h2]; decide), Int.toNat_natCast, HI'.out.e k hk] at hp
            obtain ⟨f5, rfl, hs⟩ := hp
            obtain ⟨nk, hnk⟩ : ∃ nk, nw'.getD k 0 = nk := ⟨_, rfl⟩
            rw [hnk] at hs
            have HZ0 := Aside0.mk (show St w w5 ([rowS (sl f5) (fillS nk), drv g D', blk gb (nowC nw') 43] ++ []) from hs)
            have HSS : Aside0 (∀ W qs, St w W (qs ++ [rowS (sl f5) (fillS nk), drv g D', blk gb (nowC nw') 43]) → (fun W : World => (convert 33 9 (sl f5)).run Try.prog W = .ok (.string (strOfNums (fillS nk))) W ∧ W.cell? ⟨gb, k, none⟩ = some (.int .i64 nk)) W) := ⟨fun W qs H => by
              have H := St.drop_to qs H
              exact ⟨bytes_run H, by rw [← hnk]; exact now_cell (H.front 2) k (by rw [HI'.out.l]; exact HK.out)⟩⟩
            have HZ := Aside0.mk (St.drew HZ0.out)
            clear hs hnk hk
            go_upto_region 20 with fail
            refine stepStartD (fun W : World => (convert 33 9 (sl f5)).run Try.prog W = .ok (.string (strOfNums (fillS nk))) W ∧ W.cell? ⟨gb, k, none⟩ = some (.int .i64 nk)) 12 [0, 1, 2, 3, 4, 5, 6, 7, 8, 9, 10, 11] [] rd_tab rd_bits (by kernel_rfl) rfl (HSS.out _ [] HZ.out) (fun HT_ HW_ hHeld => ?_)
            iterate 4 (refine stepPu (v := ?_) rfl rfl (any_of HT_.out (by kernel_rfl)) (fun _ _ _ h => h) (Or.inl ⟨by rfl, ?_⟩) (a' := ?_) ?_ ?_; rotate_left; (· intro w'; go_simp; with_reducible rfl); rotate_left; (· (simp only [Act.put, List.setIfInBounds_toArray, List.set_cons_zero, List.set_cons_succ, i64_w, i32_w]; rfl)))
            (refine stepLd (v := ?_) rfl rfl (take_ofW HT_.out HW_.out (by kernel_rfl)) (fun _ _ _ h => h) (Or.inl ⟨by rfl, ?_⟩) hHeld (a' := ?_) ?_ ?_; rotate_left; (· rintro w' ⟨s0, s1⟩; go_simp; with_reducible rfl); rotate_left; (· (simp only [Act.put, List.setIfInBounds_toArray, List.set_cons_zero, List.set_cons_succ, i64_w, i32_w]; rfl)))
            iterate 2 (refine stepPu (v := ?_) rfl rfl (any_of HT_.out (by kernel_rfl)) (fun _ _ _ h => h) (Or.inl ⟨by rfl, ?_⟩) (a' := ?_) ?_ ?_; rotate_left; (· intro w'; go_simp; with_reducible rfl); rotate_left; (· (simp only [Act.put, List.setIfInBounds_toArray, List.set_cons_zero, List.set_cons_succ, i64_w, i32_w]; rfl)))
            (refine stepLd (v := ?_) rfl rfl (take_ofW HT_.out HW_.out (by kernel_rfl)) (fun _ _ _ h => h) (Or.inl ⟨by rfl, ?_⟩) hHeld (a' := ?_) ?_ ?_; rotate_left; (· rintro w' ⟨s0, s1⟩; go_simp; with_reducible rfl); rotate_left; (· (simp only [Act.put, List.setIfInBounds_toArray, List.set_cons_zero, List.set_cons_succ, i64_w, i32_w]; rfl)))
            refine stepOne rfl rfl (one_of HT_.out (by kernel_rfl)) (by decide) (fun K hK => ?_)
            refine goes_ Try.func13 (by kernel_rfl) rfl #[.int .i64 nk] (by rfl) rfl rfl (by first | rfl | (simp only [List.map_toArray, List.map_cons, List.map_nil]; rfl)) ?_
            with_reducible refine (law03_filled.st HZ.out nk).mono ?_
            rintro e x1 ⟨q1, rfl, hs⟩
            refine ⟨_, rfl, ?_⟩
            have HF1 := Aside0.mk hs
            clear hs
            refine hK.out _ _ (HSS.out _ [_] HF1.out) (fun hHeld => ?_)
            clear hK K
            refine norm_ (a' := ?_) ?_ ?_
            rotate_left
            · show Act.put _ (some 84) _ = _
              simp only [Act.put, List.setIfInBounds_toArray, List.set_cons_zero, List.set_cons_succ, i64_w, i32_w]
              rfl
            refine stepOne rfl rfl (one_of HT_.out (by kernel_rfl)) (by decide) (fun K hK => ?_)
            refine step_ran (v := .string (strOfNums (fillS nk))) (w1 := x1) (by rfl) (by
              have h9 : (convert 33 9 (.slice (some ⟨q1, 0, none⟩) 256 256)).run Try.prog x1 = .ok (.string (strOfNums (fillS nk))) x1 := bytes_run HF1.out
              simp [execOp, Act.eval, h9, Result.andThen]) ?_
            refine hK.out _ _ (HSS.out _ [_] HF1.out) (fun hHeld => ?_)
            clear hK K
            refine norm_ (a' := ?_) ?_ ?_
            rotate_left
            · show Act.put _ (some 85) _ = _
              simp only [Act.put, List.setIfInBounds_toArray, List.set_cons_zero, List.set_cons_succ, i64_w, i32_w]
              rfl
            iterate 2 (refine stepPu (v := ?_) rfl rfl (any_of HT_.out (by kernel_rfl)) (fun _ _ _ h => h) (Or.inl ⟨by rfl, ?_⟩) (a' := ?_) ?_ ?_; rotate_left; (· intro w'; go_simp; with_reducible rfl); rotate_left; (· (simp only [Act.put, List.setIfInBounds_toArray, List.set_cons_zero, List.set_cons_succ, i64_w, i32_w]; rfl)))
            refine done_ (done_of HT_.out (by kernel_rfl)) ?_
            clear HT_ HW_ hHeld HSS
            go_wp2_with fail
            go_roundw
            case rel => exact ⟨k + 1, by first | rfl | rw [e2.out], HK.out, ⟨St.swap HF1.out.drop.drop⟩⟩
            case measure => exact HM2.out _ (by first | rfl | exact e2.out)
          · have h1 : decide ((k : Int) < 32) = false := decide_eq_false (by omega)
            have h2 : ¬ (k : Int) < 32 := by omega
            clear hk
            go_wp2_with fail
            go_roundw
            case rel => exact ⟨i + 1, nw', D', by first | rfl | rw [e1.out], HI40.out.1, HI40.out.2, HI', HS⟩
            case measure => exact HME.out _ (by first | rfl | exact e1.out)
    · have hst := HI.out.s
      obtain rfl : i = N := by omega
      have h5 : (i : Int) ≤ 40 := by omega
      have h6 : min (i : Int) 40 = (i : Int) := by omega
      clear hi hiN
      go_wp2_with fail
      refine (drive_Steps.st HS.out.swap).mono ?_
      rintro e w' ⟨rfl, rfl⟩
      rw [hst]
      go_wp2
      go_ret
      exact ⟨rfl, HS.out.below⟩
    · have hst := HI.out.s
      obtain rfl : i = 40 := by omega
      have h5 : ¬ (N : Int) ≤ 40 := by omega
      have h6 : min (N : Int) 40 = 40 := by omega
      clear hi hiN
      go_wp2_with fail
      refine (drive_Steps.st HS.out.swap).mono ?_
      rintro e w' ⟨rfl, rfl⟩
      rw [hst]
      go_wp2
      go_ret
      exact ⟨rfl, HS.out.below⟩
end Go.Proofs.Ytoloibjdiojmlaa.P
