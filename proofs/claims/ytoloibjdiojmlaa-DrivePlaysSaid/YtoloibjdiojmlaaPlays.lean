/- DrivePlays' walk. -/
import Derived.Test.YtoloibjdiojmlaaPlay0
import Derived.BigQuiet
namespace Go.Proofs.Ytoloibjdiojmlaa.P
open Go.RowKit Go.Proofs.YtoloibjdiojmlaaW.PrintWords Go.Proofs.YtoloibjdiojmlaaW.PrintLast Go.Proofs.YtoloibjdiojmlaaW.PrintMore Go.Proofs.Ytoloibjdiojmlaa.Sep
set_option linter.unusedVariables false
set_option linter.unusedSimpArgs false
attribute [local go_sem] max2_int min2_int max_two min_two max_three min_three max_four min_four
abbrev oCells (k s n v : Int) (A : Option Addr) (m c : Nat) : Array Value := #[.int .i64 k, .int .i64 s, .int .i64 n, .int .i64 v, .slice A m c]
theorem fillS_rng (c : Int) : ∀ y ∈ fillS c, 0 ≤ y ∧ y < 256 := (fillS_ok c).2
theorem fuseD_steps (D : DV) (n : Int) : (fuseD D n).steps = D.steps := rfl
theorem crashD_steps (D : DV) (l : List Int) : (crashD D l).steps = D.steps := rfl
def pa_T : Bool × List (List Nat × List Nat) := (true, [([], []), ([], []), ([1], [1]), ([], []), ([0, 2, 3], [0, 2, 3]), ([], []), ([], []), ([6], [6]), ([], []), ([8], [8]), ([9, 4], [9]), ([5, 7, 10, 10], [5, 7, 10]), ([4, 11], [4, 11])])
def pa_B : List Nat := [0, 0, 2, 0, 15, 0, 0, 64, 0, 256, 799, 2047, 4095]
theorem pa_tab : rtab .any (opsOf Try.f8 15) = pa_T := by kernel_rfl
theorem pa_bits : waitsOk pa_T.2 pa_B = true := by kernel_rfl
def pb_T : Bool × List (List Nat × List Nat) := (true, [([], []), ([], []), ([1], [1]), ([], []), ([3], [3]), ([], []), ([5], [5]), ([0, 2, 4, 6], [0, 2, 4, 6]), ([], []), ([], []), ([9], [9]), ([], []), ([11], [11]), ([], []), ([13], [13]), ([8, 10, 12, 14, 7], [8, 10, 12, 14]), ([7, 15], [7, 15])])
def pb_B : List Nat := [0, 0, 2, 0, 8, 0, 32, 127, 0, 0, 512, 0, 2048, 0, 8192, 32767, 65535]
theorem pb_tab : rtab .any (opsOf Try.f8 35) = pb_T := by kernel_rfl
theorem pb_bits : waitsOk pb_T.2 pb_B = true := by kernel_rfl
def pc_T : Bool × List (List Nat × List Nat) := (true, [([], []), ([], []), ([1], [1]), ([], []), ([0, 2, 3], [0, 2, 3]), ([], []), ([], []), ([6], [6]), ([], []), ([5, 7, 8, 4], [5, 7, 8]), ([4, 9], [4, 9])])
def pc_B : List Nat := [0, 0, 2, 0, 15, 0, 0, 64, 0, 511, 1023]
theorem pc_tab : rtab .any (opsOf Try.f8 47) = pc_T := by kernel_rfl
theorem pc_bits : waitsOk pc_T.2 pc_B = true := by kernel_rfl
def pd_T : Bool × List (List Nat × List Nat) := (true, [([], []), ([0], [0]), ([], []), ([2], [2]), ([3], [3]), ([4], [4]), ([5], [5]), ([1, 6], [1, 6]), ([7, 1], [7]), ([8], [8]), ([9, 8, 8], [8, 9]), ([8], [8]), ([11, 10, 8], [8, 11]), ([10, 12, 8], [8, 10, 12]), ([8, 13], [8, 13]), ([14, 12], [14]), ([15], [15]), ([16, 15, 15], [15, 16]), ([15], [15]), ([18, 15], [15, 18]), ([19, 15], [15, 19]), ([20, 15], [15, 20]), ([17, 21, 15], [15, 17, 21]), ([15, 22], [15, 22]), ([23, 17], [23]), ([24], [24]), ([25, 24, 24], [24, 25]), ([24], [24]), ([27, 24], [24, 27]), ([28, 24], [24, 28]), ([29, 24], [24, 29]), ([26, 30, 24], [24, 26, 30]), ([24, 31], [24, 31])])
def pd_B : List Nat := [0, 1, 0, 4, 12, 28, 60, 127, 255, 511, 1023, 511, 4095, 8191, 16383, 32767, 65535, 131071, 65535, 327679, 851967, 1900543, 4194303, 8388607, 16777215, 33554431, 67108863, 33554431, 167772159, 436207615, 973078527, 2147483647, 4294967295]
theorem pd_tab : rtab .any (opsOf Try.f8 49) = pd_T := by kernel_rfl
theorem pd_bits : waitsOk pd_T.2 pd_B = true := by kernel_rfl
set_option maxHeartbeats 80000000 in
set_option maxRecDepth 100000 in
theorem DrivePlays_law (z0n : Int) (z1A : Option Addr) (z1c : Nat) (z1l : (List OpD)) (w : World) (h0 : Aside0 ((Lit.int .i64 z0n).wf = true)) (h1 : Aside0 (z1l.length ≤ z1c ∧ Kd.C kOpD w z1A z1l.length z1l ∧ (z1l.length ≤ maxLen ∧ ∀ y0_ ∈ z1l, ((Lit.int .i64 y0_.kind).wf = true ∧ (Lit.int .i64 y0_.s).wf = true ∧ (Lit.int .i64 y0_.n).wf = true ∧ (Lit.int .i64 y0_.v).wf = true ∧ (y0_.keep.length ≤ maxLen ∧ ∀ y1_ ∈ y0_.keep, (Lit.int .i64 y1_).wf = true))))) :
    Calls Try.prog 8 #[.int .i64 z0n, .slice z1A z1l.length z1c] w fun e w' => e = .returned (.bool true) ∧ Below w.heap.size w w' := by
  have HR := Aside0.mk h1.out.2.1
  have HPR := Aside0.mk h1.out.2.2.2
  clear h0 h1
  obtain ⟨N, hN⟩ : ∃ N, z1l.length = N := ⟨_, rfl⟩
  have HN := Aside0.mk hN
  rw [hN] at HR ⊢
  clear hN
  go_enter Try.func8, Try.ntmps8
  go_wp2_with fail
  refine (law03_shown.st (St.start w)).mono ?_
  rintro e w1 ⟨rfl, hs⟩
  have HS1 := Aside0.mk hs
  clear hs
  go_wp2_with fail
  refine (drive_New.st HS1.out z0n).mono ?_
  intro e w2 hp
  have HP := Aside0.mk hp
  clear hp
  by_cases hn : 32 ≤ z0n ∧ z0n ≤ 2048
  · have hp := HP.out
    rw [NewPost, if_pos hn] at hp
    obtain ⟨g0, rfl, hs⟩ := hp
    have HS2 := Aside0.mk hs
    have HNN := Aside0.mk hn
    clear hs HS1 HP hn
    go_wp2_with fail
    refine (ref_New.st HS2.out z0n).mono ?_
    intro e w3 hp
    rw [NewPost, if_pos HNN.out] at hp
    obtain ⟨y, rfl, hs⟩ := hp
    have HS3 := Aside0.mk (show St w w3 [drv g0 (newD z0n.toNat), rdr y (newD z0n.toNat)] from St.swap hs)
    have HD0 := Aside0.mk (show (newD z0n.toNat).steps ≤ 0 from Nat.le_refl 0)
    obtain ⟨D0, hD0⟩ : ∃ D, newD z0n.toNat = D := ⟨_, rfl⟩
    rw [hD0] at HS3 HD0
    clear hs HS2 hD0
    go_upto_block 0 with fail
    go_cut [6] (fun p wx => ∃ (g : Nat) (D : DV), p = .pointer (some ⟨g, 0, none⟩) ∧ Aside0 (D.steps ≤ 80) ∧ Aside0 (St w wx [drv g D, rdr y D]))
    case first =>
      go_wp2_with fail
      go_loopw [6, 10] (fun p ix wr => ∃ (j g : Nat) (D : DV), p = .pointer (some ⟨g, 0, none⟩) ∧ ix = .int .i64 (j : Int) ∧ j ≤ 80 ∧ Aside0 (D.steps ≤ j) ∧ Aside0 (St w wr [drv g D, rdr y D])) (fun _ ix _ => 80 - (intOf ix).toNat)
      case atStart => exact ⟨0, g0, D0, rfl, rfl, Nat.zero_le _, HD0, HS3⟩
      case round =>
        clear HS3 HD0
        obtain ⟨j, g, D, rfl, rfl, hj, HDS, HS⟩ := hrel
        rcases o_both 80 j N with ⟨hN, h80, h1, h2, h3, h4⟩ | ⟨hN, h1, h3⟩ | ⟨hN, h80, h1, h2, h3, h4⟩
        · have HST := Aside0.mk (show D.steps < 1000000 from by have := HDS.out; omega)
          have HLAST := Aside0.mk (drv_last HS.out)
          have HSEC := Aside0.mk (drv_secs HS.out)
          have e1 := Aside0.mk (incM j (by omega))
          have HME := Aside0.mk (measM 80 j h80)
          have HJ := Aside0.mk (show j + 1 ≤ 80 from h80)
          obtain ⟨ad, Ak, ck, hA, hck, hKC, k0, k1, k2, k3, k4⟩ := opsD_at HS.out.below HR.out j hN
          subst hA
          have hmem : z1l.getD j opZ ∈ z1l := by
            rw [List.getD_eq_getElem?_getD, List.getElem?_eq_getElem (by rw [HN.out]; exact hN)]
            exact List.getElem_mem _
          have hW := HPR.out _ hmem
          obtain ⟨o, ho⟩ : ∃ o, z1l.getD j opZ = o := ⟨_, rfl⟩
          rw [ho] at k0 k1 k2 k3 k4 hW hck hKC
          obtain ⟨ok, os, on, ov, kp⟩ := o
          have HRK := Aside0.mk (i64_range hW.1)
          have HRN := Aside0.mk (i64_range hW.2.2.1)
          have HRV := Aside0.mk (i64_range hW.2.2.2.1)
          have HRP := Aside0.mk (fun x (hx : x ∈ kp) => i64_range (hW.2.2.2.2.2 x hx))
          obtain ⟨nk, hnk⟩ : ∃ nk, kp.length = nk := ⟨_, rfl⟩
          have hck : kp.length ≤ ck := hck
          have hKC : Kd.C (Kd.int .i64) w Ak kp.length kp := hKC
          dsimp only at k0 k1 k2 k3 k4
          rw [hnk] at k4 hck hKC
          have HCK := Aside0.mk hck
          have HKC := Aside0.mk hKC
          have hk10 := kind10 ok
          obtain ⟨kk, hkk⟩ : ∃ kk, kindR ok 10 = kk := ⟨_, rfl⟩
          rw [hkk] at hk10
          have HKK := Aside0.mk hkk
          clear hmem ho hkk hN h80 hj hW hnk hck hKC
          go_upto_region 10 with fail
          have HS1 := Aside0.mk (HS.out.alloc_ (oCells ok os on ov Ak nk ck) 54)
          obtain ⟨go, hgo⟩ : ∃ go, wr.heap.size = go := ⟨_, rfl⟩
          obtain ⟨W2, hW2⟩ : ∃ W, wr.alloc (.cells (oCells ok os on ov Ak nk ck) 54) = W := ⟨_, rfl⟩
          rw [hgo, hW2] at HS1
          rw [hgo, hW2]
          clear hW2 hgo k0 k1 k2 k3 k4 h1 h2 h3 h4 HS
          obtain ⟨k0, k1, k2, k3, k4⟩ := op_cells HS1.out
          go_wp2_with fail
          refine (law03_kind.st ok 10 HRK.out (by decide) (by decide) _).mono ?_
          rintro e w' ⟨rfl, rfl⟩
          rw [HKK.out]
          go_upto_block 2 with fail
          go_cut [6] (fun p wx => ∃ (g' : Nat) (D' : DV), p = .pointer (some ⟨g', 0, none⟩) ∧ Aside0 (D'.steps ≤ j + 1) ∧ Aside0 (St w wx [drv g' D', rdr y D']))
          case first =>
            have HSS : Aside0 (∀ W (ps' qs : List Sep.HP), St w W (qs ++ (blk go (oCells ok os on ov Ak nk ck) 54 :: ps')) → W.cell? ⟨go, 1, none⟩ = some (.int .i64 os) ∧ W.cell? ⟨go, 2, none⟩ = some (.int .i64 on) ∧ W.cell? ⟨go, 3, none⟩ = some (.int .i64 ov)) := ⟨fun W ps' qs H => by
              obtain ⟨k0, k1, k2, k3, k4⟩ := op_cells (St.drop_to qs H)
              exact ⟨k1, k2, k3⟩⟩
            rcases hk10 with rfl | rfl | rfl | rfl | rfl | rfl | rfl | rfl | rfl | rfl
            iterate 3
              · as_aux_lemma =>
                  clear k0 k1 k2 k4
                  go_wp2_with fail
                  refine (law03_filled.st HS1.out ov).mono ?_
                  rintro e w3 ⟨f1, rfl, hs⟩
                  have HS2 := Aside0.mk hs
                  clear hs k3
                  go_upto_region 15 with fail
                  refine stepStart (fun W : World => W.cell? ⟨go, 1, none⟩ = some (.int .i64 os) ∧ W.cell? ⟨go, 2, none⟩ = some (.int .i64 on) ∧ W.cell? ⟨go, 3, none⟩ = some (.int .i64 ov)) 13 [0, 1, 2, 3, 5, 6, 7, 8, 9, 4, 10, 11, 12] pa_tab pa_bits (by kernel_rfl) rfl (HSS.out _ _ [_] HS2.out.drew) (fun HT_ HW_ hHeld => ?_)
                  iterate 2 (refine stepPu (v := ?_) rfl rfl (any_of HT_.out (by kernel_rfl)) (fun _ _ _ h => h) (Or.inl ⟨by rfl, ?_⟩) (a' := ?_) ?_ ?_; rotate_left; (· intro w'; go_simp; with_reducible rfl); rotate_left; (· (simp only [Act.put, List.setIfInBounds_toArray, List.set_cons_zero, List.set_cons_succ, i64_w, i32_w]; rfl)))
                  (refine stepLd (v := ?_) rfl rfl (take_ofW HT_.out HW_.out (by kernel_rfl)) (fun _ _ _ h => h) (Or.inl ⟨by rfl, ?_⟩) hHeld (a' := ?_) ?_ ?_; rotate_left; (· rintro w' ⟨s0, s1, s2⟩; go_simp; with_reducible rfl); rotate_left; (· (simp only [Act.put, List.setIfInBounds_toArray, List.set_cons_zero, List.set_cons_succ, i64_w, i32_w]; rfl)))
                  iterate 3 (refine stepPu (v := ?_) rfl rfl (any_of HT_.out (by kernel_rfl)) (fun _ _ _ h => h) (Or.inl ⟨by rfl, ?_⟩) (a' := ?_) ?_ ?_; rotate_left; (· intro w'; go_simp; with_reducible rfl); rotate_left; (· (simp only [Act.put, List.setIfInBounds_toArray, List.set_cons_zero, List.set_cons_succ, i64_w, i32_w]; rfl)))
                  (refine stepLd (v := ?_) rfl rfl (take_ofW HT_.out HW_.out (by kernel_rfl)) (fun _ _ _ h => h) (Or.inl ⟨by rfl, ?_⟩) hHeld (a' := ?_) ?_ ?_; rotate_left; (· rintro w' ⟨s0, s1, s2⟩; go_simp; with_reducible rfl); rotate_left; (· (simp only [Act.put, List.setIfInBounds_toArray, List.set_cons_zero, List.set_cons_succ, i64_w, i32_w]; rfl)))
                  (refine stepPu (v := ?_) rfl rfl (any_of HT_.out (by kernel_rfl)) (fun _ _ _ h => h) (Or.inl ⟨by rfl, ?_⟩) (a' := ?_) ?_ ?_; rotate_left; (· intro w'; go_simp; with_reducible rfl); rotate_left; (· (simp only [Act.put, List.setIfInBounds_toArray, List.set_cons_zero, List.set_cons_succ, i64_w, i32_w]; rfl)))
                  (refine stepLd (v := ?_) rfl rfl (take_ofW HT_.out HW_.out (by kernel_rfl)) (fun _ _ _ h => h) (Or.inl ⟨by rfl, ?_⟩) hHeld (a' := ?_) ?_ ?_; rotate_left; (· rintro w' ⟨s0, s1, s2⟩; go_simp; with_reducible rfl); rotate_left; (· (simp only [Act.put, List.setIfInBounds_toArray, List.set_cons_zero, List.set_cons_succ, i64_w, i32_w]; rfl)))
                  refine stepOne rfl rfl (one_of HT_.out (by kernel_rfl)) (by decide) (fun K hK => ?_)
                  refine goes_ Try.func12 (by kernel_rfl) rfl #[.pointer (some ⟨g, 0, none⟩), .int .i64 os, sl f1] (by rfl) rfl rfl (by first | rfl | (simp only [List.map_toArray, List.map_cons, List.map_nil]; rfl)) ?_
                  with_reducible refine (((drive_Write.st (HS2.out.drew.front 2) os (fillS_rng ov) HST.out).mono (fun _ _ q => WritePost.to q))).mono ?_
                  rintro e w4 ⟨rfl, hv⟩
                  refine ⟨_, rfl, ?_⟩
                  have HW1 := Aside0.mk hv
                  clear hv
                  refine hK.out _ _ (HSS.out _ _ [_, _] HW1.out) (fun hHeld => ?_)
                  clear hK K
                  refine norm_ (a' := ?_) ?_ ?_
                  rotate_left
                  · show Act.put _ (some 81) _ = _
                    simp only [Act.put, List.setIfInBounds_toArray, List.set_cons_zero, List.set_cons_succ, i64_w, i32_w]
                    rfl
                  refine stepOne rfl rfl (one_of HT_.out (by kernel_rfl)) (by decide) (fun K hK => ?_)
                  refine goes_ Try.func13 (by kernel_rfl) rfl #[.int .i64 ov] (by rfl) rfl rfl (by first | rfl | (simp only [List.map_toArray, List.map_cons, List.map_nil]; rfl)) ?_
                  with_reducible refine (law03_filled.st HW1.out ov).mono ?_
                  rintro e w5 ⟨f2, rfl, hv⟩
                  refine ⟨_, rfl, ?_⟩
                  have HW2 := Aside0.mk hv
                  clear hv
                  refine hK.out _ _ (HSS.out _ _ [_, _, _] HW2.out) (fun hHeld => ?_)
                  clear hK K
                  refine norm_ (a' := ?_) ?_ ?_
                  rotate_left
                  · show Act.put _ (some 87) _ = _
                    simp only [Act.put, List.setIfInBounds_toArray, List.set_cons_zero, List.set_cons_succ, i64_w, i32_w]
                    rfl
                  refine stepOne rfl rfl (one_of HT_.out (by kernel_rfl)) (by decide) (fun K hK => ?_)
                  refine goes_ Try.func23 (by kernel_rfl) rfl #[.pointer (some ⟨y, 0, none⟩), .int .i64 os, sl f2] (by rfl) rfl rfl (by first | rfl | (simp only [List.map_toArray, List.map_cons, List.map_nil]; rfl)) ?_
                  with_reducible refine (((ref_Write.st (HW2.out.front 4) os HST.out).mono (fun _ _ q => WritePost.to q))).mono ?_
                  rintro e w6 ⟨rfl, hv⟩
                  refine ⟨_, rfl, ?_⟩
                  have HW3 := Aside0.mk hv
                  clear hv
                  refine hK.out _ _ (HSS.out _ _ [_, _, _, _] HW3.out) (fun hHeld => ?_)
                  clear hK K
                  refine norm_ (a' := ?_) ?_ ?_
                  rotate_left
                  · show Act.put _ (some 88) _ = _
                    simp only [Act.put, List.setIfInBounds_toArray, List.set_cons_zero, List.set_cons_succ, i64_w, i32_w]
                    rfl
                  (refine stepPu (v := ?_) rfl rfl (any_of HT_.out (by kernel_rfl)) (fun _ _ _ h => h) (Or.inl ⟨by rfl, ?_⟩) (a' := ?_) ?_ ?_; rotate_left; (· intro w'; go_simp; with_reducible rfl); rotate_left; (· (simp only [Act.put, List.setIfInBounds_toArray, List.set_cons_zero, List.set_cons_succ, i64_w, i32_w]; rfl)))
                  refine done_ (done_of HT_.out (by kernel_rfl)) ?_
                  clear HT_ HW_ hHeld HSS
                  obtain ⟨gx, hA, c0, f0, hset⟩ := (HW3.out.front 3).row_at 0 (by decide) 0
                  injection hA with hA
                  injection hA with hA
                  subst hA
                  have HSET := Aside0.mk (hset 99)
                  clear hset
                  go_wp2_with fail
                  go_meet
                  exact ⟨g, _, rfl, ⟨Nat.le_trans (wrD_steps D os (fillS ov)) (Nat.succ_le_succ HDS.out)⟩, ⟨St.swap (St.drop (St.front 2 (St.drop (St.swap (St.drop HSET.out)))))⟩⟩
            · as_aux_lemma =>
                clear k0 k2 k3 k4
                go_wp2_with fail
                refine ((drive_Read.st HS1.out.swap os).mono (fun _ _ q => ReadPost.to q)).mono ?_
                rintro e w4 ⟨A4, c4, rfl, hs⟩
                obtain ⟨X, hX⟩ : ∃ X, rdX D os = X := ⟨_, rfl⟩
                have HX := Aside0.mk hX
                rw [hX] at hs ⊢
                clear hX
                obtain ⟨n4, hn4⟩ : ∃ n, X.length = n := ⟨_, rfl⟩
                have HN4 := Aside0.mk hn4
                rw [hn4] at hs ⊢
                clear hn4 k1
                have HS4 := Aside0.mk hs
                clear hs
                have k1 := (op_cells (HS4.out.front 2)).2.1
                go_wp2_with fail
                refine ((ref_Read.st (HS4.out.front 3) os HLAST.out HST.out).mono (fun _ _ q => RReadPost.to q)).mono ?_
                rintro e w5 ⟨A5, c5, rfl, hs⟩
                rw [HX.out, HN4.out] at hs
                rw [HX.out, HN4.out]
                have HS5 := Aside0.mk hs
                clear hs k1 HSS
                have t5 := HS5.out.row_string Try.underlying33 Try.underlying5 Try.underlying9
                have t4 := (HS5.out.front 2).row_string Try.underlying33 Try.underlying5 Try.underlying9
                rcases Nat.eq_zero_or_pos n4 with h0 | h0
                · subst h0
                  go_wp2_with fail
                  go_meet
                  exact ⟨g, D, rfl, ⟨Nat.le_succ_of_le HDS.out⟩, ⟨St.swap (St.drop (St.front 2 (St.drop (St.swap (St.drop HS5.out)))))⟩⟩
                · have h3 : decide ((n4 : Int) > 0) = true := decide_eq_true (by omega)
                  have h4 : (0 : Int) < (n4 : Int) := by omega
                  obtain ⟨gx, hA, c0, f0, hset⟩ := (HS5.out.front 2).row_at 0 h0 0
                  subst hA
                  have HSET := Aside0.mk (hset 98)
                  clear hset
                  go_wp2_with fail
                  go_meet
                  exact ⟨g, D, rfl, ⟨Nat.le_succ_of_le HDS.out⟩, ⟨St.swap (St.drop (St.front 2 (St.drop (St.drop HSET.out))))⟩⟩
            · as_aux_lemma =>
                clear k0 k1 k2 k3 k4 HSS
                go_wp2_with fail
                refine ((drive_Flush.st HS1.out.swap HST.out).mono (fun _ _ q => FlushPost.to q)).mono ?_
                rintro e w4 ⟨rfl, hs⟩
                have HS4 := Aside0.mk hs
                clear hs
                go_wp2_with fail
                refine ((ref_Flush.st (HS4.out.front 2) HST.out).mono (fun _ _ q => FlushPost.to q)).mono ?_
                rintro e w5 ⟨rfl, hs⟩
                have HS5 := Aside0.mk hs
                clear hs
                go_wp2_with fail
                go_meet
                exact ⟨g, _, rfl, ⟨Nat.le_trans (flD_steps D) (Nat.succ_le_succ HDS.out)⟩, ⟨St.swap (St.drop (St.front 2 HS5.out))⟩⟩
            · as_aux_lemma =>
                clear k0 k1 k3 k4 HSS
                go_wp2_with fail
                refine (drive_Fuse.st HS1.out.swap on HRN.out.2).mono ?_
                rintro e w4 ⟨rfl, hs⟩
                have HS4 := Aside0.mk hs
                clear hs k2
                have k2 := (op_cells HS4.out.swap).2.2.1
                go_wp2_with fail
                refine (ref_Fuse.st (HS4.out.front 2) on HRN.out.2).mono ?_
                rintro e w5 ⟨rfl, hs⟩
                have HS5 := Aside0.mk hs
                clear hs k2
                go_wp2_with fail
                go_meet
                exact ⟨g, _, rfl, ⟨Nat.le_succ_of_le (by rw [fuseD_steps]; exact HDS.out)⟩, ⟨St.swap (St.drop (St.front 2 HS5.out))⟩⟩
            · as_aux_lemma =>
                clear k0 k1 k2 k3 HSS
                go_wp2_with fail
                refine (drive_Crash.st HS1.out.swap (KC.came HKC.out _) HCK.out HRP.out HST.out).mono ?_
                rintro e w4 ⟨rfl, hs⟩
                have HS4 := Aside0.mk hs
                clear hs k4
                have k4 := (op_cells HS4.out.swap).2.2.2.2
                go_wp2_with fail
                refine (ref_Crash.st (HS4.out.front 2) (KC.came HKC.out _) HRP.out HST.out).mono ?_
                rintro e w5 ⟨rfl, hs⟩
                have HS5 := Aside0.mk hs
                clear hs k4
                go_wp2_with fail
                go_meet
                exact ⟨g, _, rfl, ⟨Nat.le_succ_of_le (by rw [crashD_steps]; exact HDS.out)⟩, ⟨St.swap (St.drop (St.front 2 HS5.out))⟩⟩
            · as_aux_lemma =>
                clear k0 k1 k2 k3 k4
                go_upto_region 35 with fail
                refine stepStart (fun W : World => W.cell? ⟨go, 1, none⟩ = some (.int .i64 os) ∧ W.cell? ⟨go, 2, none⟩ = some (.int .i64 on) ∧ W.cell? ⟨go, 3, none⟩ = some (.int .i64 ov)) 17 [0, 1, 2, 3, 4, 5, 6, 8, 9, 10, 11, 12, 13, 14, 7, 15, 16] pb_tab pb_bits (by kernel_rfl) rfl (HSS.out _ _ [] HS1.out.drew) (fun HT_ HW_ hHeld => ?_)
                iterate 2 (refine stepPu (v := ?_) rfl rfl (any_of HT_.out (by kernel_rfl)) (fun _ _ _ h => h) (Or.inl ⟨by rfl, ?_⟩) (a' := ?_) ?_ ?_; rotate_left; (· intro w'; go_simp; with_reducible rfl); rotate_left; (· (simp only [Act.put, List.setIfInBounds_toArray, List.set_cons_zero, List.set_cons_succ, i64_w, i32_w]; rfl)))
                (refine stepLd (v := ?_) rfl rfl (take_ofW HT_.out HW_.out (by kernel_rfl)) (fun _ _ _ h => h) (Or.inl ⟨by rfl, ?_⟩) hHeld (a' := ?_) ?_ ?_; rotate_left; (· rintro w' ⟨s0, s1, s2⟩; go_simp; with_reducible rfl); rotate_left; (· (simp only [Act.put, List.setIfInBounds_toArray, List.set_cons_zero, List.set_cons_succ, i64_w, i32_w]; rfl)))
                (refine stepPu (v := ?_) rfl rfl (any_of HT_.out (by kernel_rfl)) (fun _ _ _ h => h) (Or.inl ⟨by rfl, ?_⟩) (a' := ?_) ?_ ?_; rotate_left; (· intro w'; go_simp; with_reducible rfl); rotate_left; (· (simp only [Act.put, List.setIfInBounds_toArray, List.set_cons_zero, List.set_cons_succ, i64_w, i32_w]; rfl)))
                (refine stepLd (v := ?_) rfl rfl (take_ofW HT_.out HW_.out (by kernel_rfl)) (fun _ _ _ h => h) (Or.inl ⟨by rfl, ?_⟩) hHeld (a' := ?_) ?_ ?_; rotate_left; (· rintro w' ⟨s0, s1, s2⟩; go_simp; with_reducible rfl); rotate_left; (· (simp only [Act.put, List.setIfInBounds_toArray, List.set_cons_zero, List.set_cons_succ, i64_w, i32_w]; rfl)))
                (refine stepPu (v := ?_) rfl rfl (any_of HT_.out (by kernel_rfl)) (fun _ _ _ h => h) (Or.inl ⟨by rfl, ?_⟩) (a' := ?_) ?_ ?_; rotate_left; (· intro w'; go_simp; with_reducible rfl); rotate_left; (· (simp only [Act.put, List.setIfInBounds_toArray, List.set_cons_zero, List.set_cons_succ, i64_w, i32_w]; rfl)))
                (refine stepLd (v := ?_) rfl rfl (take_ofW HT_.out HW_.out (by kernel_rfl)) (fun _ _ _ h => h) (Or.inl ⟨by rfl, ?_⟩) hHeld (a' := ?_) ?_ ?_; rotate_left; (· rintro w' ⟨s0, s1, s2⟩; go_simp; with_reducible rfl); rotate_left; (· (simp only [Act.put, List.setIfInBounds_toArray, List.set_cons_zero, List.set_cons_succ, i64_w, i32_w]; rfl)))
                iterate 2 (refine stepPu (v := ?_) rfl rfl (any_of HT_.out (by kernel_rfl)) (fun _ _ _ h => h) (Or.inl ⟨by rfl, ?_⟩) (a' := ?_) ?_ ?_; rotate_left; (· intro w'; go_simp; with_reducible rfl); rotate_left; (· (simp only [Act.put, List.setIfInBounds_toArray, List.set_cons_zero, List.set_cons_succ, i64_w, i32_w]; rfl)))
                (refine stepLd (v := ?_) rfl rfl (take_ofW HT_.out HW_.out (by kernel_rfl)) (fun _ _ _ h => h) (Or.inl ⟨by rfl, ?_⟩) hHeld (a' := ?_) ?_ ?_; rotate_left; (· rintro w' ⟨s0, s1, s2⟩; go_simp; with_reducible rfl); rotate_left; (· (simp only [Act.put, List.setIfInBounds_toArray, List.set_cons_zero, List.set_cons_succ, i64_w, i32_w]; rfl)))
                (refine stepPu (v := ?_) rfl rfl (any_of HT_.out (by kernel_rfl)) (fun _ _ _ h => h) (Or.inl ⟨by rfl, ?_⟩) (a' := ?_) ?_ ?_; rotate_left; (· intro w'; go_simp; with_reducible rfl); rotate_left; (· (simp only [Act.put, List.setIfInBounds_toArray, List.set_cons_zero, List.set_cons_succ, i64_w, i32_w]; rfl)))
                (refine stepLd (v := ?_) rfl rfl (take_ofW HT_.out HW_.out (by kernel_rfl)) (fun _ _ _ h => h) (Or.inl ⟨by rfl, ?_⟩) hHeld (a' := ?_) ?_ ?_; rotate_left; (· rintro w' ⟨s0, s1, s2⟩; go_simp; with_reducible rfl); rotate_left; (· (simp only [Act.put, List.setIfInBounds_toArray, List.set_cons_zero, List.set_cons_succ, i64_w, i32_w]; rfl)))
                (refine stepPu (v := ?_) rfl rfl (any_of HT_.out (by kernel_rfl)) (fun _ _ _ h => h) (Or.inl ⟨by rfl, ?_⟩) (a' := ?_) ?_ ?_; rotate_left; (· intro w'; go_simp; with_reducible rfl); rotate_left; (· (simp only [Act.put, List.setIfInBounds_toArray, List.set_cons_zero, List.set_cons_succ, i64_w, i32_w]; rfl)))
                (refine stepLd (v := ?_) rfl rfl (take_ofW HT_.out HW_.out (by kernel_rfl)) (fun _ _ _ h => h) (Or.inl ⟨by rfl, ?_⟩) hHeld (a' := ?_) ?_ ?_; rotate_left; (· rintro w' ⟨s0, s1, s2⟩; go_simp; with_reducible rfl); rotate_left; (· (simp only [Act.put, List.setIfInBounds_toArray, List.set_cons_zero, List.set_cons_succ, i64_w, i32_w]; rfl)))
                refine stepOne rfl rfl (one_of HT_.out (by kernel_rfl)) (by decide) (fun K hK => ?_)
                refine goes_ Try.func21 (by kernel_rfl) rfl #[.pointer (some ⟨g, 0, none⟩), .int .i64 os, .int .i64 on, .int .i64 ov] (by rfl) rfl rfl (by first | rfl | (simp only [List.map_toArray, List.map_cons, List.map_nil]; rfl)) ?_
                with_reducible refine (((drive_Corrupt.st HS1.out.drew.swap os on ov).mono (fun _ _ q => CorruptPost.to q))).mono ?_
                rintro e w4 ⟨rfl, hv⟩
                refine ⟨_, rfl, ?_⟩
                have HW1 := Aside0.mk hv
                clear hv
                refine hK.out _ _ (HSS.out _ _ [_] HW1.out) (fun hHeld => ?_)
                clear hK K
                refine norm_ (a' := ?_) ?_ ?_
                rotate_left
                · show Act.put _ (some 159) _ = _
                  simp only [Act.put, List.setIfInBounds_toArray, List.set_cons_zero, List.set_cons_succ, i64_w, i32_w]
                  rfl
                refine stepOne rfl rfl (one_of HT_.out (by kernel_rfl)) (by decide) (fun K hK => ?_)
                refine goes_ Try.func28 (by kernel_rfl) rfl #[.pointer (some ⟨y, 0, none⟩), .int .i64 os, .int .i64 on, .int .i64 ov] (by rfl) rfl rfl (by first | rfl | (simp only [List.map_toArray, List.map_cons, List.map_nil]; rfl)) ?_
                with_reducible refine (((ref_Corrupt.st (HW1.out.front 2) os on ov HSEC.out HST.out).mono (fun _ _ q => CorruptPost.to q))).mono ?_
                rintro e w5 ⟨rfl, hv⟩
                refine ⟨_, rfl, ?_⟩
                have HW2 := Aside0.mk hv
                clear hv
                refine hK.out _ _ (HSS.out _ _ [_, _] HW2.out) (fun hHeld => ?_)
                clear hK K
                refine norm_ (a' := ?_) ?_ ?_
                rotate_left
                · show Act.put _ (some 167) _ = _
                  simp only [Act.put, List.setIfInBounds_toArray, List.set_cons_zero, List.set_cons_succ, i64_w, i32_w]
                  rfl
                (refine stepPu (v := ?_) rfl rfl (any_of HT_.out (by kernel_rfl)) (fun _ _ _ h => h) (Or.inl ⟨by rfl, ?_⟩) (a' := ?_) ?_ ?_; rotate_left; (· intro w'; go_simp; with_reducible rfl); rotate_left; (· (simp only [Act.put, List.setIfInBounds_toArray, List.set_cons_zero, List.set_cons_succ, i64_w, i32_w]; rfl)))
                refine done_ (done_of HT_.out (by kernel_rfl)) ?_
                clear HT_ HW_ hHeld HSS
                go_wp2_with fail
                go_meet
                exact ⟨g, _, rfl, ⟨Nat.le_trans (coD_steps D os on ov) (Nat.succ_le_succ HDS.out)⟩, ⟨St.swap (St.drop (St.front 2 HW2.out))⟩⟩
            · as_aux_lemma =>
                clear k0 k1 k2 k3 k4 HSS
                go_wp2_with fail
                refine (drive_Clone.st HS1.out.swap HST.out).mono ?_
                rintro e w4 ⟨g', rfl, hs⟩
                have HS4 := Aside0.mk hs
                clear hs
                go_wp2_with fail
                refine (law03_filled.st HS4.out 7).mono ?_
                rintro e w5 ⟨f5, rfl, hs⟩
                have HS5 := Aside0.mk (St.front 2 hs)
                clear hs
                go_wp2_with fail
                refine ((drive_Write.st HS5.out 0 (fillS_rng 7) HST.out).mono (fun _ _ q => WritePost.to q)).mono ?_
                rintro e w6 ⟨rfl, hs⟩
                have HD6 := Aside0.mk (wrD_steps D 0 (fillS 7))
                obtain ⟨D6, hD6⟩ : ∃ D', wrD D 0 (fillS 7) = D' := ⟨_, rfl⟩
                rw [hD6] at hs HD6
                have HS6 := Aside0.mk hs
                have HST6 := Aside0.mk (show D6.steps < 1000000 from by have := HD6.out; have := HDS.out; have := HJ.out; omega)
                clear hs hD6
                go_wp2_with fail
                refine ((drive_Flush.st HS6.out HST6.out).mono (fun _ _ q => FlushPost.to q)).mono ?_
                rintro e w7 ⟨rfl, hs⟩
                have HD7 := Aside0.mk (flD_steps D6)
                obtain ⟨D7, hD7⟩ : ∃ D', flD D6 = D' := ⟨_, rfl⟩
                rw [hD7] at hs HD7
                have HS7 := Aside0.mk hs
                have HST7 := Aside0.mk (show D7.steps < 1000000 from by have := HD7.out; have := HD6.out; have := HDS.out; have := HJ.out; omega)
                clear hs hD7
                go_wp2_with fail
                refine (drive_Crash.st HS7.out (KC.nil _) (Nat.le_refl 0) (fun x hx => by cases hx) HST7.out).mono ?_
                rintro e w8 ⟨rfl, hs⟩
                have HS8 := Aside0.mk hs
                clear hs
                go_wp2_with fail
                go_meet
                exact ⟨g', D, rfl, ⟨Nat.le_succ_of_le HDS.out⟩, ⟨St.drop (St.swap (St.drop (St.drop HS8.out)))⟩⟩
            · as_aux_lemma =>
                clear k0 k1 k2 k4
                go_wp2_with fail
                refine (law03_kind.st ov 300 HRV.out (by decide) (by decide) _).mono ?_
                rintro e w' ⟨rfl, rfl⟩
                obtain ⟨q, hq, hq3⟩ : ∃ q : Nat, kindR ov 300 = q ∧ q < 300 := ⟨(kindR ov 300).toNat, by have := kindR_range ov 300 (by decide); omega, by have := kindR_range ov 300 (by decide); omega⟩
                rw [hq]
                have hmk : ∀ W : World, (Instr.makeSlice 33 (.int .i64 q) (.int .i64 q)).run Try.prog W = .ok (.slice (some ⟨W.heap.size, 0, none⟩) q q) (W.alloc (.cells (madeCells #[.int .u8 0] q) 5)) := fun W => print_make_of (P := Try.prog) 33 5 (.int .u8 0) 1 Try.underlying33 infou8 rfl (by decide) q (by omega) W
                have HS2 := Aside0.mk (HS1.out.row_made (enc := Value.int .u8) (h1 := fun _ => rfl) (z := (0 : Int)) 5 q (by omega))
                obtain ⟨f1, hf1⟩ : ∃ f, W2.heap.size = f := ⟨_, rfl⟩
                rw [hf1] at HS2
                have HF1 := Aside0.mk hf1
                clear hq hq3 k3 hf1
                go_upto_region 47 with fail
                clear hmk
                rw [HF1.out]
                obtain ⟨W3, hW3⟩ : ∃ W, W2.alloc (.cells (madeCells #[.int .u8 0] q) 5) = W := ⟨_, rfl⟩
                rw [hW3] at HS2
                rw [hW3]
                clear hW3
                refine stepStart (fun W : World => W.cell? ⟨go, 1, none⟩ = some (.int .i64 os) ∧ W.cell? ⟨go, 2, none⟩ = some (.int .i64 on) ∧ W.cell? ⟨go, 3, none⟩ = some (.int .i64 ov)) 11 [0, 1, 2, 3, 5, 6, 7, 8, 4, 9, 10] pc_tab pc_bits (by kernel_rfl) rfl (HSS.out _ _ [_] HS2.out.drew) (fun HT_ HW_ hHeld => ?_)
                iterate 2 (refine stepPu (v := ?_) rfl rfl (any_of HT_.out (by kernel_rfl)) (fun _ _ _ h => h) (Or.inl ⟨by rfl, ?_⟩) (a' := ?_) ?_ ?_; rotate_left; (· intro w'; go_simp; with_reducible rfl); rotate_left; (· (simp only [Act.put, List.setIfInBounds_toArray, List.set_cons_zero, List.set_cons_succ, i64_w, i32_w]; rfl)))
                (refine stepLd (v := ?_) rfl rfl (take_ofW HT_.out HW_.out (by kernel_rfl)) (fun _ _ _ h => h) (Or.inl ⟨by rfl, ?_⟩) hHeld (a' := ?_) ?_ ?_; rotate_left; (· rintro w' ⟨s0, s1, s2⟩; go_simp; with_reducible rfl); rotate_left; (· (simp only [Act.put, List.setIfInBounds_toArray, List.set_cons_zero, List.set_cons_succ, i64_w, i32_w]; rfl)))
                iterate 3 (refine stepPu (v := ?_) rfl rfl (any_of HT_.out (by kernel_rfl)) (fun _ _ _ h => h) (Or.inl ⟨by rfl, ?_⟩) (a' := ?_) ?_ ?_; rotate_left; (· intro w'; go_simp; with_reducible rfl); rotate_left; (· (simp only [Act.put, List.setIfInBounds_toArray, List.set_cons_zero, List.set_cons_succ, i64_w, i32_w]; rfl)))
                (refine stepLd (v := ?_) rfl rfl (take_ofW HT_.out HW_.out (by kernel_rfl)) (fun _ _ _ h => h) (Or.inl ⟨by rfl, ?_⟩) hHeld (a' := ?_) ?_ ?_; rotate_left; (· rintro w' ⟨s0, s1, s2⟩; go_simp; with_reducible rfl); rotate_left; (· (simp only [Act.put, List.setIfInBounds_toArray, List.set_cons_zero, List.set_cons_succ, i64_w, i32_w]; rfl)))
                (refine stepPu (v := ?_) rfl rfl (any_of HT_.out (by kernel_rfl)) (fun _ _ _ h => h) (Or.inl ⟨by rfl, ?_⟩) (a' := ?_) ?_ ?_; rotate_left; (· intro w'; go_simp; with_reducible rfl); rotate_left; (· (simp only [Act.put, List.setIfInBounds_toArray, List.set_cons_zero, List.set_cons_succ, i64_w, i32_w]; rfl)))
                refine stepOne rfl rfl (one_of HT_.out (by kernel_rfl)) (by decide) (fun K hK => ?_)
                refine goes_ Try.func12 (by kernel_rfl) rfl #[.pointer (some ⟨g, 0, none⟩), .int .i64 os, .slice (some ⟨f1, 0, none⟩) q q] (by rfl) rfl rfl (by first | rfl | (simp only [List.map_toArray, List.map_cons, List.map_nil]; rfl)) ?_
                with_reducible refine (((drive_Write.st (x := List.replicate q 0) (HS2.out.drew.front 2) os (fun y hy => by rw [List.eq_of_mem_replicate hy]; decide) HST.out).mono (fun _ _ q => WritePost.to q))).mono ?_
                rintro e w4 ⟨rfl, hv⟩
                refine ⟨_, rfl, ?_⟩
                have HW1 := Aside0.mk hv
                clear hv
                refine hK.out _ _ (HSS.out _ _ [_, _] HW1.out) (fun hHeld => ?_)
                clear hK K
                refine norm_ (a' := ?_) ?_ ?_
                rotate_left
                · show Act.put _ (some 193) _ = _
                  simp only [Act.put, List.setIfInBounds_toArray, List.set_cons_zero, List.set_cons_succ, i64_w, i32_w]
                  rfl
                refine stepOne rfl rfl (one_of HT_.out (by kernel_rfl)) (by decide) (fun K hK => ?_)
                refine goes_ Try.func23 (by kernel_rfl) rfl #[.pointer (some ⟨y, 0, none⟩), .int .i64 os, .slice (some ⟨f1, 0, none⟩) q q] (by rfl) rfl rfl (by first | rfl | (simp only [List.map_toArray, List.map_cons, List.map_nil]; rfl)) ?_
                with_reducible refine (((ref_Write.st (x := List.replicate q 0) (St.cons_swap (HW1.out.front 3)) os HST.out).mono (fun _ _ q => WritePost.to q))).mono ?_
                rintro e w5 ⟨rfl, hv⟩
                refine ⟨_, rfl, ?_⟩
                have HW2 := Aside0.mk hv
                clear hv
                refine hK.out _ _ (HSS.out _ _ [_, _, _] HW2.out) (fun hHeld => ?_)
                clear hK K
                refine norm_ (a' := ?_) ?_ ?_
                rotate_left
                · show Act.put _ (some 198) _ = _
                  simp only [Act.put, List.setIfInBounds_toArray, List.set_cons_zero, List.set_cons_succ, i64_w, i32_w]
                  rfl
                (refine stepPu (v := ?_) rfl rfl (any_of HT_.out (by kernel_rfl)) (fun _ _ _ h => h) (Or.inl ⟨by rfl, ?_⟩) (a' := ?_) ?_ ?_; rotate_left; (· intro w'; go_simp; with_reducible rfl); rotate_left; (· (simp only [Act.put, List.setIfInBounds_toArray, List.set_cons_zero, List.set_cons_succ, i64_w, i32_w]; rfl)))
                refine done_ (done_of HT_.out (by kernel_rfl)) ?_
                clear HT_ HW_ hHeld HSS
                go_wp2_with fail
                go_meet
                exact ⟨g, _, rfl, ⟨Nat.le_trans (wrD_steps D os (List.replicate q 0)) (Nat.succ_le_succ HDS.out)⟩, ⟨St.swap (St.drop (St.front 2 (St.drop (St.swap HW2.out))))⟩⟩
          case rest =>
            as_aux_lemma =>
              obtain ⟨g', D', rfl, HDS', HS'⟩ := hcut
              clear HS1 HDS HST HLAST HSEC HRK HRN HRV HRP HCK HKC HKK k0 k1 k2 k3 k4 hk10
              have HST := Aside0.mk (show D'.steps < 1000000 from by have := HDS'.out; have := HJ.out; omega)
              obtain ⟨_, ⟨A6, c6, vs6⟩, hs6⟩ := rdr_out (HS'.out.front 1)
              obtain ⟨r0, r1, r2, r3, r4⟩ := rdr_cells hs6
              clear hs6 r2 r3
              obtain ⟨hl, hhl⟩ : ∃ hl, D'.hs.length = hl := ⟨_, rfl⟩
              rw [hhl] at r0
              have HHL := Aside0.mk hhl
              obtain ⟨off, hoff⟩ : ∃ off, D'.off = off := ⟨_, rfl⟩
              rw [hoff] at r1
              have HOFF := Aside0.mk hoff
              have hb1 : ((!off) == off) = false := by cases off <;> rfl
              have hb2 : (off == (!off)) = false := by cases off <;> rfl
              have HD2 := Aside0.mk HS'.out.drew
              have HR0 := Aside0.mk (show wc.drew.cell? ⟨y, 0, none⟩ = some (.slice A6 hl c6) ∧ wc.drew.cell? ⟨y, 1, none⟩ = some (.bool off) ∧ wc.drew.cell? ⟨y, 4, none⟩ = some (.int .i64 D'.steps) from ⟨r0, r1, r4⟩)
              clear hhl hoff r0 r1 r4
              go_upto_region 49 with fail
              refine stepStart (fun W : World => W.cell? ⟨y, 0, none⟩ = some (.slice A6 hl c6) ∧ W.cell? ⟨y, 1, none⟩ = some (.bool off) ∧ W.cell? ⟨y, 4, none⟩ = some (.int .i64 D'.steps)) 33 [0, 2, 3, 4, 5, 6, 1, 7, 8, 9, 11, 10, 12, 13, 14, 15, 16, 18, 19, 20, 21, 17, 22, 23, 24, 25, 27, 28, 29, 30, 26, 31, 32] pd_tab pd_bits (by kernel_rfl) rfl (HR0.out) (fun HT_ HW_ hHeld => ?_)
              iterate 4 (refine stepPu (v := ?_) rfl rfl (any_of HT_.out (by kernel_rfl)) (fun _ _ _ h => h) (Or.inl ⟨by rfl, ?_⟩) (a' := ?_) ?_ ?_; rotate_left; (· intro w'; go_simp; with_reducible rfl); rotate_left; (· (simp only [Act.put, List.setIfInBounds_toArray, List.set_cons_zero, List.set_cons_succ, i64_w, i32_w]; rfl)))
              (refine stepLd (v := ?_) rfl rfl (take_ofW HT_.out HW_.out (by kernel_rfl)) (fun _ _ _ h => h) (Or.inl ⟨by rfl, ?_⟩) hHeld (a' := ?_) ?_ ?_; rotate_left; (· rintro w' ⟨s0, s1, s2⟩; go_simp; with_reducible rfl); rotate_left; (· (simp only [Act.put, List.setIfInBounds_toArray, List.set_cons_zero, List.set_cons_succ, i64_w, i32_w]; rfl)))
              (refine stepPu (v := ?_) rfl rfl (any_of HT_.out (by kernel_rfl)) (fun _ _ _ h => h) (Or.inl ⟨by rfl, ?_⟩) (a' := ?_) ?_ ?_; rotate_left; (· intro w'; go_simp; with_reducible rfl); rotate_left; (· (simp only [Act.put, List.setIfInBounds_toArray, List.set_cons_zero, List.set_cons_succ, i64_w, i32_w]; rfl)))
              refine stepOne rfl rfl (one_of HT_.out (by kernel_rfl)) (by decide) (fun K hK => ?_)
              refine goes_ Try.func30 (by kernel_rfl) rfl #[.pointer (some ⟨g', 0, none⟩)] (by rfl) rfl rfl (by first | rfl | (simp only [List.map_toArray, List.map_cons, List.map_nil]; rfl)) ?_
              with_reducible refine (((by have := drive_Size.st HD2.out; rw [HHL.out] at this; exact this) : Calls Try.prog 30 #[.pointer (some ⟨g', 0, none⟩)] wc.drew fun e w' => e = .returned (.int .i64 hl) ∧ wc.drew = w')).mono ?_
              rintro e w8 ⟨rfl, rfl⟩
              refine ⟨_, rfl, ?_⟩
              refine hK.out _ _ (hHeld) (fun hHeld => ?_)
              clear hK K
              refine norm_ (a' := ?_) ?_ ?_
              rotate_left
              · show Act.put _ (some 201) _ = _
                simp only [Act.put, List.setIfInBounds_toArray, List.set_cons_zero, List.set_cons_succ, i64_w, i32_w]
                rfl
              iterate 4 (refine stepPu (v := ?_) rfl rfl (any_of HT_.out (by kernel_rfl)) (fun _ _ _ h => h) (Or.inl ⟨by rfl, ?_⟩) (a' := ?_) ?_ ?_; rotate_left; (· intro w'; go_simp; with_reducible rfl); rotate_left; (· (simp only [Act.put, List.setIfInBounds_toArray, List.set_cons_zero, List.set_cons_succ, i64_w, i32_w]; rfl)))
              refine stepOne rfl rfl (one_of HT_.out (by kernel_rfl)) (by decide) (fun K hK => ?_)
              refine goes_ Try.func17 (by kernel_rfl) rfl #[.pointer (some ⟨g', 0, none⟩)] (by rfl) rfl rfl (by first | rfl | (simp only [List.map_toArray, List.map_cons, List.map_nil]; rfl)) ?_
              with_reducible refine (drive_Cached.st HD2.out).mono ?_
              rintro e w8 ⟨rfl, rfl⟩
              refine ⟨_, rfl, ?_⟩
              refine hK.out _ _ (hHeld) (fun hHeld => ?_)
              clear hK K
              refine norm_ (a' := ?_) ?_ ?_
              rotate_left
              · show Act.put _ (some 210) _ = _
                simp only [Act.put, List.setIfInBounds_toArray, List.set_cons_zero, List.set_cons_succ, i64_w, i32_w]
                rfl
              refine stepOne rfl rfl (one_of HT_.out (by kernel_rfl)) (by decide) (fun K hK => ?_)
              refine goes_ Try.func31 (by kernel_rfl) rfl #[.pointer (some ⟨y, 0, none⟩)] (by rfl) rfl rfl (by first | rfl | (simp only [List.map_toArray, List.map_cons, List.map_nil]; rfl)) ?_
              with_reducible refine (ref_Cached.st (HD2.out.front 1) HST.out).mono ?_
              rintro e w8 ⟨rfl, rfl⟩
              refine ⟨_, rfl, ?_⟩
              refine hK.out _ _ (hHeld) (fun hHeld => ?_)
              clear hK K
              refine norm_ (a' := ?_) ?_ ?_
              rotate_left
              · show Act.put _ (some 212) _ = _
                simp only [Act.put, List.setIfInBounds_toArray, List.set_cons_zero, List.set_cons_succ, i64_w, i32_w]
                rfl
              iterate 7 (refine stepPu (v := ?_) rfl rfl (any_of HT_.out (by kernel_rfl)) (fun _ _ _ h => h) (Or.inl ⟨by rfl, ?_⟩) (a' := ?_) ?_ ?_; rotate_left; (· intro w'; go_simp; with_reducible rfl); rotate_left; (· (simp only [Act.put, List.setIfInBounds_toArray, List.set_cons_zero, List.set_cons_succ, i64_w, i32_w]; rfl)))
              (refine stepLd (v := ?_) rfl rfl (take_ofW HT_.out HW_.out (by kernel_rfl)) (fun _ _ _ h => h) (Or.inl ⟨by rfl, ?_⟩) hHeld (a' := ?_) ?_ ?_; rotate_left; (· rintro w' ⟨s0, s1, s2⟩; go_simp; with_reducible rfl); rotate_left; (· (simp only [Act.put, List.setIfInBounds_toArray, List.set_cons_zero, List.set_cons_succ, i64_w, i32_w]; rfl)))
              refine stepOne rfl rfl (one_of HT_.out (by kernel_rfl)) (by decide) (fun K hK => ?_)
              refine goes_ Try.func19 (by kernel_rfl) rfl #[.pointer (some ⟨g', 0, none⟩)] (by rfl) rfl rfl (by first | rfl | (simp only [List.map_toArray, List.map_cons, List.map_nil]; rfl)) ?_
              with_reducible refine (((by have := drive_On.st HD2.out; rw [HOFF.out] at this; exact this) : Calls Try.prog 19 #[.pointer (some ⟨g', 0, none⟩)] wc.drew fun e w' => e = .returned (.bool (!off)) ∧ wc.drew = w')).mono ?_
              rintro e w8 ⟨rfl, rfl⟩
              refine ⟨_, rfl, ?_⟩
              refine hK.out _ _ (hHeld) (fun hHeld => ?_)
              clear hK K
              refine norm_ (a' := ?_) ?_ ?_
              rotate_left
              · show Act.put _ (some 217) _ = _
                simp only [Act.put, List.setIfInBounds_toArray, List.set_cons_zero, List.set_cons_succ, i64_w, i32_w]
                rfl
              iterate 7 (refine stepPu (v := ?_) rfl rfl (any_of HT_.out (by kernel_rfl)) (fun _ _ _ h => h) (Or.inl ⟨by rfl, ?_⟩) (a' := ?_) ?_ ?_; rotate_left; (· intro w'; go_simp; with_reducible rfl); rotate_left; (· (simp only [Act.put, List.setIfInBounds_toArray, List.set_cons_zero, List.set_cons_succ, i64_w, i32_w]; rfl)))
              (refine stepLd (v := ?_) rfl rfl (take_ofW HT_.out HW_.out (by kernel_rfl)) (fun _ _ _ h => h) (Or.inl ⟨by rfl, ?_⟩) hHeld (a' := ?_) ?_ ?_; rotate_left; (· rintro w' ⟨s0, s1, s2⟩; go_simp; with_reducible rfl); rotate_left; (· (simp only [Act.put, List.setIfInBounds_toArray, List.set_cons_zero, List.set_cons_succ, i64_w, i32_w]; rfl)))
              refine stepOne rfl rfl (one_of HT_.out (by kernel_rfl)) (by decide) (fun K hK => ?_)
              refine goes_ Try.func20 (by kernel_rfl) rfl #[.pointer (some ⟨g', 0, none⟩)] (by rfl) rfl rfl (by first | rfl | (simp only [List.map_toArray, List.map_cons, List.map_nil]; rfl)) ?_
              with_reducible refine (drive_Steps.st HD2.out).mono ?_
              rintro e w8 ⟨rfl, rfl⟩
              refine ⟨_, rfl, ?_⟩
              refine hK.out _ _ (hHeld) (fun hHeld => ?_)
              clear hK K
              refine norm_ (a' := ?_) ?_ ?_
              rotate_left
              · show Act.put _ (some 226) _ = _
                simp only [Act.put, List.setIfInBounds_toArray, List.set_cons_zero, List.set_cons_succ, i64_w, i32_w]
                rfl
              iterate 2 (refine stepPu (v := ?_) rfl rfl (any_of HT_.out (by kernel_rfl)) (fun _ _ _ h => h) (Or.inl ⟨by rfl, ?_⟩) (a' := ?_) ?_ ?_; rotate_left; (· intro w'; go_simp; with_reducible rfl); rotate_left; (· (simp only [Act.put, List.setIfInBounds_toArray, List.set_cons_zero, List.set_cons_succ, i64_w, i32_w]; rfl)))
              refine done_ (done_of HT_.out (by kernel_rfl)) ?_
              clear HT_ HW_ hHeld
              go_wp2_with fail
              go_roundw
              case rel => exact ⟨j + 1, g', D', rfl, by first | rfl | rw [e1.out], HJ.out, HDS', HD2⟩
              case measure => exact HME.out _ (by first | rfl | exact e1.out)
        · have hDS : D.steps ≤ 80 := Nat.le_trans HDS.out hj
          have HDS8 := Aside0.mk hDS
          clear hDS hj hN
          go_wp2_with fail
          go_meet
          exact ⟨g, D, rfl, HDS8, HS⟩
        · have hDS : D.steps ≤ 80 := Nat.le_trans HDS.out hj
          have HDS8 := Aside0.mk hDS
          clear hDS hj hN h80
          go_wp2_with fail
          go_meet
          exact ⟨g, D, rfl, HDS8, HS⟩
    case rest =>
      as_aux_lemma =>
        clear HS3 HD0
        obtain ⟨g, D, rfl, HDS, HS⟩ := hcut
        go_wp2_with fail
        refine (drive_Fuse.st HS.out (-1) (by decide)).mono ?_
        rintro e w4 ⟨rfl, hs⟩
        have HS4 := Aside0.mk hs
        clear hs
        go_wp2_with fail
        refine (ref_Fuse.st (HS4.out.front 1) (-1) (by decide)).mono ?_
        rintro e w5 ⟨rfl, hs⟩
        have HST := Aside0.mk (show (fuseD D (-1)).steps < 1000000 from by rw [fuseD_steps]; have := HDS.out; omega)
        obtain ⟨D1, hD1⟩ : ∃ D1, fuseD D (-1) = D1 := ⟨_, rfl⟩
        rw [hD1] at hs HST
        have HS5 := Aside0.mk (show St w w5 [drv g D1, rdr y D1] from St.swap hs)
        have HLEN := Aside0.mk (drv_out HS5.out).1.2.1
        clear hs HS4 HS hD1 HDS
        go_wp2_with fail
        go_loopw [19] (fun ix wr => ∃ s : Nat, ix = .int .i64 (s : Int) ∧ s ≤ D1.hs.length ∧ Aside0 (St w wr [drv g D1, rdr y D1])) (fun ix _ => D1.hs.length - (intOf ix).toNat)
        case atStart => exact ⟨0, rfl, Nat.zero_le _, HS5⟩
        case round =>
          clear HS5
          obtain ⟨s, rfl, hs, HS⟩ := hrel
          obtain ⟨_, ⟨A6, c6, vs6⟩, hs6⟩ := rdr_out (HS.out.front 1)
          obtain ⟨r0, -⟩ := rdr_cells hs6
          clear hs6
          obtain ⟨hl, hhl⟩ : ∃ hl, D1.hs.length = hl := ⟨_, rfl⟩
          rw [hhl] at r0
          rw [hhl] at hs
          have HHL := Aside0.mk hhl
          by_cases hlt : s < hl
          · have h1 : decide ((s : Int) < (hl : Int)) = true := decide_eq_true (by omega)
            have h2 : (s : Int) < (hl : Int) := by omega
            have HLT := Aside0.mk hlt
            have e2 := Aside0.mk (incM s (by have := HLEN.out; omega))
            have HM2 := Aside0.mk (show ∀ (y : Int), y = ((s + 1 : Nat) : Int) → D1.hs.length - (intOf (.int .i64 y)).toNat < D1.hs.length - (intOf (.int .i64 (s : Int))).toNat from by rw [hhl]; exact measM hl s hlt)
            have HLAST := Aside0.mk (drv_last HS.out)
            clear hs hlt hhl
            go_wp2_with fail
            refine ((drive_Read.st HS.out (s : Int)).mono (fun _ _ q => ReadPost.to q)).mono ?_
            rintro e w4 ⟨A4, c4, rfl, hs⟩
            obtain ⟨X, hX⟩ : ∃ X, rdX D1 (s : Int) = X := ⟨_, rfl⟩
            have HX := Aside0.mk hX
            rw [hX] at hs ⊢
            clear hX
            obtain ⟨n4, hn4⟩ : ∃ n, X.length = n := ⟨_, rfl⟩
            have HN4 := Aside0.mk hn4
            rw [hn4] at hs ⊢
            clear hn4
            have HS4 := Aside0.mk hs
            clear hs
            clear r0
            go_wp2_with fail
            refine ((ref_Read.st (HS4.out.front 2) (s : Int) HLAST.out HST.out).mono (fun _ _ q => RReadPost.to q)).mono ?_
            rintro e w5 ⟨A5, c5, rfl, hs⟩
            rw [HX.out, HN4.out] at hs
            rw [HX.out, HN4.out]
            have HS5 := Aside0.mk hs
            clear hs
            have t5 := HS5.out.row_string Try.underlying33 Try.underlying5 Try.underlying9
            have t4 := (HS5.out.front 2).row_string Try.underlying33 Try.underlying5 Try.underlying9
            go_wp2_with fail
            go_roundw
            case rel => exact ⟨s + 1, by first | rfl | rw [e2.out], by rw [HHL.out]; exact HLT.out, ⟨St.swap (St.drop (St.swap (St.drop HS5.out)))⟩⟩
            case measure => exact HM2.out _ (by first | rfl | exact e2.out)
          · have h1 : decide ((s : Int) < (hl : Int)) = false := decide_eq_false (by omega)
            have h2 : ¬ (s : Int) < (hl : Int) := by omega
            clear hlt hs
            go_wp2
            go_ret
            exact ⟨rfl, HS.out.below⟩
  · as_aux_lemma =>
      have hp := HP.out
      rw [NewPost, if_neg hn] at hp
      obtain ⟨rfl, hs⟩ := hp
      have HS2 := Aside0.mk hs
      have HNN := Aside0.mk hn
      clear hs HS1 HP hn
      go_wp2_with fail
      refine (ref_New.st HS2.out z0n).mono ?_
      intro e w3 hp
      rw [NewPost, if_neg HNN.out] at hp
      obtain ⟨rfl, hs⟩ := hp
      have HS3 := Aside0.mk hs
      clear hs HS2
      go_wp2_with fail
      go_loopw [10] (fun i wr => i = .int .i64 0 ∧ w3 = wr) (fun i _ => 80 - (intOf i).toNat)
      case atStart => exact ⟨rfl, rfl⟩
      case round =>
        obtain ⟨rfl, rfl⟩ := hrel
        by_cases hN : 0 < N
        · have h3 : decide ((0 : Int) < (N : Int)) = true := decide_eq_true (by omega)
          have h4 : (0 : Int) < (N : Int) := by omega
          go_wp2
          go_ret
          exact ⟨rfl, HS3.out.below⟩
        · have h3 : decide ((0 : Int) < (N : Int)) = false := decide_eq_false (by omega)
          have h4 : ¬ (0 : Int) < (N : Int) := by omega
          go_wp2
          go_ret
          exact ⟨rfl, HS3.out.below⟩
end Go.Proofs.Ytoloibjdiojmlaa.P
