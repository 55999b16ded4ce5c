/- CountsSafe's walk. -/
import Derived.Test.YtinhiigkfabcfaaBad
import Derived.Deep.CutBlock
namespace Go.Proofs.Ytinhiigkfabcfaa.P
open Go.RowKit Go.Proofs.YtinhiigkfabcfaaW.PrintWords Go.Proofs.YtinhiigkfabcfaaW.PrintLast Go.Proofs.YtinhiigkfabcfaaW.PrintMore Go.Proofs.Ytinhiigkfabcfaa.Sep
set_option linter.unusedVariables false
attribute [local go_sem] max2_int min2_int max_two min_two max_three min_three max_four min_four
theorem scan_none_free {now done : List Int} : ∀ (d x : Nat), scan now done x d = none → nfree now done x d = 0 := by
  intro d
  induction d with
  | zero => intro x _; rfl
  | succ d ih =>
    intro x h
    unfold scan at h
    unfold nfree
    split at h
    · cases h
    · rename_i hf; rw [if_neg hf, ih _ h]
set_option maxHeartbeats 4000000 in
set_option maxRecDepth 100000 in
theorem CountsSafe_law (z0n : Int) (z1A : Option Addr) (z1c : Nat) (z1l : (List OpC)) (w : World) (h0 : Aside0 ((Lit.int .i64 z0n).wf = true)) (h1 : Aside0 (z1l.length ≤ z1c ∧ Kd.C kOpC w z1A z1l.length z1l ∧ (z1l.length ≤ maxLen ∧ ∀ y0_ ∈ z1l, ((Lit.int .i64 y0_.kind).wf = true ∧ (Lit.int .i64 y0_.a).wf = true)))) :
    Calls Try.prog 4 #[.int .i64 z0n, .slice z1A z1l.length z1c] w fun e w' => e = .returned (.bool true) ∧ Below w.heap.size w w' := by
  have HR := Aside0.mk h1.out.2.1
  have HW := Aside0.mk (fun (o : OpC) (ho : o ∈ z1l) => And.intro (i64_range (h1.out.2.2.2 o ho).1) (i64_range (h1.out.2.2.2 o ho).2))
  have HA := Aside0.mk (i64_range h0.out)
  clear h0 h1
  obtain ⟨N, hN⟩ : ∃ N, z1l.length = N := ⟨_, rfl⟩
  have HL := Aside0.mk hN
  rw [hN] at HR ⊢
  clear hN
  have hr := kindR_range z0n 100 (by decide)
  obtain ⟨r, hrr⟩ : ∃ r, kindR z0n 100 = r := ⟨_, rfl⟩
  rw [hrr] at hr
  obtain ⟨hr0, hr1⟩ := hr
  obtain ⟨k, hk⟩ : ∃ k : Nat, 32 + r = (k : Int) := ⟨(32 + r).toNat, by omega⟩
  have HK := Aside0.mk (show 32 ≤ k ∧ k ≤ 2048 ∧ k ≤ 300 from by omega)
  have HRR := Aside0.mk hrr
  have HKE := Aside0.mk hk
  clear hrr hk
  have HFI := Aside0.mk (show 4 ≤ firstOf k ∧ firstOf k < k from by have := HK.out; unfold firstOf areas; omega)
  have hmk := print_make_of (P := Try.prog) 36 3 (.int .i64 0) 8 Try.underlying36 info3 rfl (by decide) k (by have := HK.out; omega)
  go_enter Try.func4, Try.ntmps4
  go_wp2_with fail
  refine (law08_shown.st (St.start w)).mono ?_
  rintro e w1 ⟨rfl, hs⟩
  have HS1 := Aside0.mk hs
  clear hs
  go_wp2_with fail
  refine (law08_kind.st z0n 100 HA.out (by decide) (by decide) w1).mono ?_
  rintro e w' ⟨rfl, rfl⟩
  rw [HRR.out]
  go_wp2_with fail
  rw [HKE.out]
  clear hr0 hr1
  refine (ref_Areas.st k HK.out.2.1 w1).mono ?_
  rintro e w' ⟨rfl, rfl⟩
  obtain ⟨fi, hfi⟩ : ∃ fi, firstOf k = fi := ⟨_, rfl⟩
  have HF := Aside0.mk hfi
  rw [hfi] at HFI ⊢
  clear hfi
  generalize areas k = ar at *
  go_wp2_with fail
  refine (counts_New.st HS1.out (k : Int)).mono ?_
  intro e w2 hp
  rw [NewPost, if_pos (by have := HK.out; omega), Int.toNat_natCast, HF.out] at hp
  obtain ⟨g, rfl, hs⟩ := hp
  have HS2 := Aside0.mk ((hs.row_made (enc := Value.int .i64) (h1 := fun _ => rfl) (z := (0 : Int)) 3 k (by have := HK.out; omega)).row_made (enc := Value.int .i64) (h1 := fun _ => rfl) (z := (0 : Int)) 3 k (by have := HK.out; omega))
  have hz1 := fun W : World => (show (W.alloc (.cells (madeCells #[.int .i64 0] k) 3)).heap.size = W.heap.size + 1 from by simp)
  generalize areas k = ar2 at *
  clear hs HS1
  go_wp2_with fail
  rw [hz1] at HS2
  have HS3 : Aside0 (St w ((w2.alloc (.cells (madeCells #[.int .i64 0] k) 3)).alloc (.cells (madeCells #[.int .i64 0] k) 3)) [cnt g k ar2 fi (List.replicate k 0) (List.replicate k 0), row (Kd.int .i64) 3 (.slice (some ⟨w2.heap.size, 0, none⟩) k k) (List.replicate k 0), row (Kd.int .i64) 3 (.slice (some ⟨w2.heap.size + 1, 0, none⟩) k k) (List.replicate k 0)]) := ⟨St.front 2 (St.swap (St.front 1 HS2.out) |>.front 1)⟩
  clear hmk hz1 HS2
  obtain ⟨gn, hgn⟩ : ∃ gn, w2.heap.size = gn := ⟨_, rfl⟩
  obtain ⟨gd, hgd⟩ : ∃ gd, w2.heap.size + 1 = gd := ⟨_, rfl⟩
  rw [hgd] at HS3 ⊢
  rw [hgn] at HS3 ⊢
  clear hgd hgn
  generalize (w2.alloc (.cells (madeCells #[.int .i64 0] k) 3)).alloc (.cells (madeCells #[.int .i64 0] k) 3) = w3 at *
  go_loopw [13, 14, 15, 16, 17, 18, 66, 109, 132, 165] (fun i _ _ _ _ _ _ _ _ _ wr => ∃ (j : Nat) (now done : List Int), i = .int .i64 j ∧ j ≤ 60 ∧ Aside0 (St w wr [cnt g k ar2 fi now done, row (Kd.int .i64) 3 (.slice (some ⟨gn, 0, none⟩) k k) now, row (Kd.int .i64) 3 (.slice (some ⟨gd, 0, none⟩) k k) done]) ∧ Aside0 (Bd j now)) (fun i _ _ _ _ _ _ _ _ _ _ => 60 - (intOf i).toNat)
  case atStart => exact ⟨0, _, _, rfl, by omega, HS3, ⟨zeros_Bd k⟩⟩
  case round =>
    clear HS3
    obtain ⟨j, now, done, rfl, hj, HS, HBD⟩ := hrel
    clear hj
    have HCP := Aside0.mk (cnt_out HS.out).1
    rcases o_both j N with ⟨h1, h2, h3, h4, h5, h6⟩ | ⟨h1, h2, h3⟩ | ⟨h1, h2, h3, h4, h5, h6⟩
    · obtain ⟨ad, rfl, k0, k1⟩ := ops_at HS.out.below HR.out j h1
      have hmem : z1l.getD j ⟨0, 0⟩ ∈ z1l := by
        rw [List.getD_eq_getElem?_getD, List.getElem?_eq_getElem (by rw [HL.out]; exact h1)]
        exact List.getElem_mem _
      have HKR := Aside0.mk (HW.out _ hmem)
      obtain ⟨o, ho⟩ : ∃ o, z1l.getD j ⟨0, 0⟩ = o := ⟨_, rfl⟩
      rw [ho] at k0 k1 HKR
      obtain ⟨ok, oa⟩ := o
      have HJ6 := Aside0.mk h2
      have e1 := Aside0.mk (inc_w j (by omega))
      have hk6 := kind6 ok
      obtain ⟨kk, hkk⟩ : ∃ kk, kindR ok 6 = kk := ⟨_, rfl⟩
      rw [hkk] at hk6
      have HKK := Aside0.mk hkk
      have hq := kindR_range oa (k : Int) (by have := HK.out; omega)
      obtain ⟨a, ha⟩ : ∃ a : Nat, kindR oa (k : Int) = (a : Int) := ⟨(kindR oa (k : Int)).toNat, by omega⟩
      have HAE := Aside0.mk ha
      have HAK := Aside0.mk (show a < k from by omega)
      clear hmem ho hkk h1 h2 hq ha
      go_wp2_with fail
      refine (law08_kind.st oa (k : Int) HKR.out.2 (by have := HK.out; omega) (by have := HK.out; omega) wr).mono ?_
      rintro e w' ⟨rfl, rfl⟩
      rw [HAE.out]
      go_wp2_with fail
      refine (law08_kind.st ok 6 HKR.out.1 (by decide) (by decide) wr).mono ?_
      rintro e w' ⟨rfl, rfl⟩
      rw [HKK.out]
      clear k0 k1 h3 h4 h5 h6
      have hak : (a : Int) < (k : Int) := by have := HAK.out; omega
      go_upto_block 2 with fail
      go_cut [15, 16, 17, 18, 66, 109, 132, 165] (fun _ _ _ _ _ _ _ _ wx => ∃ now' done' : List Int, Aside0 (St w wx [cnt g k ar2 fi now' done', row (Kd.int .i64) 3 (.slice (some ⟨gn, 0, none⟩) k k) now', row (Kd.int .i64) 3 (.slice (some ⟨gd, 0, none⟩) k k) done']) ∧ Aside0 (Bd (j + 1) now'))
      case first =>
        have HKB := Aside0.mk (show (k : Int) ≤ 300 ∧ (fi : Int) < (k : Int) ∧ fi ≤ k ∧ j < 60 from by have := HK.out; have := HFI.out; have := HJ6.out; omega)
        rcases hk6 with rfl | rfl | rfl | rfl | rfl | rfl
        iterate 3
          · obtain ⟨r, hr⟩ : ∃ r, scan now done fi (k - fi) = r := ⟨_, rfl⟩
            have HRS := Aside0.mk hr
            clear hr hak
            go_wp2_with fail
            refine (counts_Alloc.st HS.out r HRS.out).mono ?_
            intro e w5 hp
            cases r with
            | none =>
              obtain ⟨rfl, hs⟩ := hp
              have HS5 := Aside0.mk hs
              clear hs HS
              go_wp2_with fail
              have K := counts_Free.st HS5.out
              rw [scan_none_free _ _ HRS.out] at K
              refine K.mono ?_
              clear K
              rintro e w' ⟨rfl, rfl⟩
              go_wp2
              go_ret
              exact ⟨rfl, HS5.out.below⟩
            | some p =>
              obtain ⟨rfl, hs⟩ := hp
              obtain ⟨hp1, hp2, hp3⟩ := scan_le _ _ _ _ _ HRS.out
              have hp4 : p < k := by have := HKB.out; omega
              unfold freeB at hp3
              rw [Bool.and_eq_true, beq_iff_eq, beq_iff_eq] at hp3
              obtain ⟨gx, hgx, c1, f1, hset⟩ := hs.swap.row_at p hp4 0
              injection hgx with hgx
              injection hgx with hgx
              obtain ⟨gy, hgy, c2, _, _⟩ := (hs.front 2).row_at p hp4 0
              injection hgy with hgy
              injection hgy with hgy
              subst hgx hgy
              rw [hp3.1] at c1
              rw [hp3.2] at c2
              have HSET := Aside0.mk (hset 1)
              have t1 : ¬ (p : Int) < (fi : Int) := by omega
              have t2 : (p : Int) < (k : Int) := by omega
              have t3 : decide ((p : Int) < (fi : Int)) = false := decide_eq_false t1
              have t4 : decide ((p : Int) ≥ (k : Int)) = false := decide_eq_false (by omega)
              have HBN := Aside0.mk (HBD.out.set p 1 (by omega))
              clear hs HS hset hp1 hp2 hp3 hp4
              go_wp2_with fail
              go_meet
              exact ⟨_, done, ⟨HSET.out.swap⟩, HBN⟩
        · obtain ⟨gx, hgx, c1, f1, _⟩ := HS.out.swap.row_at a HAK.out 0
          injection hgx with hgx
          injection hgx with hgx
          subst hgx
          have hg := getR_in (l := now) (a := a) (by rw [HCP.out.ln]; exact HAK.out)
          obtain ⟨x, hx⟩ : ∃ x, now.getD a 0 = x := ⟨_, rfl⟩
          rw [hx] at c1 hg
          have HG := Aside0.mk hg
          have hx0 := HCP.out.cn.at a
          have hxb := HBD.out.get (a : Int)
          rw [hx] at hx0
          rw [hg] at hxb
          have HX0 := Aside0.mk (show 0 ≤ x ∧ x ≤ (j : Int) ∧ j < 60 from ⟨hx0.1, hxb, HKB.out.2.2.2⟩)
          clear hx hg hx0 hxb
          have c1d : wr.drew.cell? ⟨gn, a, none⟩ = some (.int .i64 x) := c1
          by_cases hx1 : x = 0
          · subst hx1
            go_wp2_with fail
            go_region_with (first
              | (go_at_call 17; refine (counts_Ref.st HS.out.drew (a : Int) 0 HG.out).mono ?_; intro e w5 hp; rw [RefPost, if_pos rfl] at hp; obtain ⟨rfl, hs⟩ := hp; have HS5 := Aside0.mk hs; clear hs; have c5 := Own2.at_ HS5.out.swap a HAK.out 0 (by rw [← getR_in (by rw [HCP.out.ln]; exact HAK.out)]; exact HG.out)))
            all_goals
              clear c1 c1d
              go_wp2_with fail
              go_meet
              exact ⟨_, done, HS5, ⟨HBD.out.up⟩⟩
          · have h7 : decide (x > 0) = true := decide_eq_true (by have := HX0.out; omega)
            have h8 : (0 : Int) < x := by have := HX0.out; omega
            have HX := Aside0.mk hx1
            have hxu : x ≤ 60 := by have := HX0.out; omega
            clear hx1
            go_wp2_with fail
            go_region_with (first
              | (go_at_call 17; refine (counts_Ref.st HS.out.drew (a : Int) x HG.out).mono ?_; intro e w5 hp; rw [RefPost, if_neg HX.out, if_neg (by have := HX0.out; omega), Int.toNat_natCast] at hp; obtain ⟨rfl, hs⟩ := hp; have HS5 := Aside0.mk hs; clear hs; have c5 := Own2.at_ HS5.out.swap a HAK.out x (by rw [← getR_in (by rw [HCP.out.ln]; exact HAK.out)]; exact HG.out); obtain ⟨gx5, hgx5, _, f5, hset5⟩ := HS5.out.swap.row_at a HAK.out 0; injection hgx5 with hgx5; injection hgx5 with hgx5; subst hgx5; have HSET := Aside0.mk (hset5 (x + 1)); clear hset5))
            all_goals
              clear c1 c1d f1
              go_wp2_with fail
              go_meet
              exact ⟨_, done, ⟨HSET.out.swap⟩, ⟨HBD.out.set a (x + 1) (by have := HX0.out; omega)⟩⟩
        · obtain ⟨gx, hgx, c1, f1, _⟩ := HS.out.swap.row_at a HAK.out 0
          injection hgx with hgx
          injection hgx with hgx
          subst hgx
          have hg := getR_in (l := now) (a := a) (by rw [HCP.out.ln]; exact HAK.out)
          obtain ⟨x, hx⟩ : ∃ x, now.getD a 0 = x := ⟨_, rfl⟩
          rw [hx] at hg
          have HG := Aside0.mk hg
          have hx0 := HCP.out.cn.at a
          have hxb := HBD.out.get (a : Int)
          rw [hx] at hx0
          rw [hg] at hxb
          have HX0 := Aside0.mk (show 0 ≤ x ∧ x ≤ (j : Int) ∧ j < 60 from ⟨hx0.1, hxb, HKB.out.2.2.2⟩)
          clear hx hg hx0 hxb c1 f1
          by_cases hx1 : x = 0
          · subst hx1
            go_wp2_with fail
            refine (counts_Unref.st HS.out (a : Int) 0 HG.out).mono ?_
            intro e w5 hp
            rw [UnrefPost, if_pos rfl] at hp
            obtain ⟨rfl, hs⟩ := hp
            have HS5 := Aside0.mk hs
            have c5 := Own2.at_ HS5.out.swap a HAK.out 0 (by rw [← getR_in (by rw [HCP.out.ln]; exact HAK.out)]; exact HG.out)
            clear hs HS
            go_wp2_with fail
            go_meet
            exact ⟨_, done, HS5, ⟨HBD.out.up⟩⟩
          · have h7 : decide (x > 0) = true := decide_eq_true (by have := HX0.out; omega)
            have h8 : (0 : Int) < x := by have := HX0.out; omega
            have HX := Aside0.mk hx1
            have hxu : x ≤ 60 := by have := HX0.out; omega
            clear hx1
            go_wp2_with fail
            refine (counts_Unref.st HS.out (a : Int) x HG.out).mono ?_
            intro e w5 hp
            rw [UnrefPost, if_neg HX.out, Int.toNat_natCast] at hp
            obtain ⟨rfl, hs⟩ := hp
            have HS5 := Aside0.mk hs
            have c5 := Own2.at_ HS5.out.swap a HAK.out x (by rw [← getR_in (by rw [HCP.out.ln]; exact HAK.out)]; exact HG.out)
            obtain ⟨gx5, hgx5, _, f5, hset5⟩ := HS5.out.swap.row_at a HAK.out 0
            injection hgx5 with hgx5
            injection hgx5 with hgx5
            subst hgx5
            have HSET := Aside0.mk (hset5 (x - 1))
            have c6 := Own2.at_ HSET.out a HAK.out (x - 1) (by rw [List.getD_eq_getElem?_getD, List.getElem?_set_self (by rw [HCP.out.ln]; exact HAK.out)]; rfl)
            clear hset5 hs HS
            go_wp2_with fail
            go_meet
            exact ⟨_, done, ⟨HSET.out.swap⟩, ⟨HBD.out.set a (x - 1) (by have := HX0.out; omega)⟩⟩
        · go_wp2_with fail
          refine (counts_Commit.st HS.out).mono ?_
          rintro e w5 ⟨rfl, hs⟩
          have HS5 := Aside0.mk hs
          clear hs HS
          go_wp2_with (first | ((with_reducible refine gate_builtin (b := .copy) (xs := #[.tmp 169, .tmp 170]) rfl ?_); refine St.copy_all rfl (.tmp 169) (.tmp 170) 36 36 rfl 3 Try.underlying36 (by kernel_rfl) _ _ k k k done now rfl rfl (HS5.out.front 2) HS5.out.swap.row_C.2.2 ?_; intro w6 hs6; have HS6 := Aside0.mk hs6; clear hs6))
          go_meet
          exact ⟨now, now, ⟨St.front 2 (St.front 2 HS6.out)⟩, ⟨HBD.out.up⟩⟩
      case rest =>
        obtain ⟨now', done', HS5, HBD5⟩ := hcut
        clear HS HBD HCP
        obtain ⟨gx, hgx, c1, _⟩ := (HS5.out.front 1).row_at a HAK.out 0
        injection hgx with hgx
        injection hgx with hgx
        obtain ⟨gy, hgy, c2, _⟩ := (HS5.out.front 2).row_at a HAK.out 0
        injection hgy with hgy
        injection hgy with hgy
        subst hgx hgy
        have HG := Aside0.mk (getR_in (l := now') (a := a) (by rw [(cnt_out HS5.out).1.ln]; exact HAK.out))
        obtain ⟨x, hx⟩ : ∃ x, now'.getD a 0 = x := ⟨_, rfl⟩
        obtain ⟨y, hy⟩ : ∃ y, done'.getD a 0 = y := ⟨_, rfl⟩
        rw [hx] at c1 HG
        rw [hy] at c2
        have hx0 := ((cnt_out HS5.out).1.cn.at a)
        rw [hx] at hx0
        have HFR := Aside0.mk (show freshB now' done' (a : Int) = (decide (x ≠ 0) && y == 0) from by unfold freshB; rw [HG.out, Int.toNat_natCast, hy])
        clear hx hy
        by_cases hx1 : x = 0
        · subst hx1
          clear hx0
          go_wp2_with fail
          go_quiet ((first
            | (go_at_call 18; exact Calls.quiet_of_same (v := .int .i64 0) ((counts_Get.st (HS5.out.drewN _) (a : Int)).mono (fun e w' h => ⟨h.1.trans (by rw [HG.out]), h.2.symm⟩)))
            | (go_at_call 19; exact Calls.quiet_of_same (v := .bool false) ((counts_Fresh.st (HS5.out.drewN _) (a : Int)).mono (fun e w' h => ⟨h.1.trans (by rw [HFR.out]; rfl), h.2.symm⟩)))))
          clear c1 c2
          go_wp2_with fail
          exact ⟨⟨j + 1, _, _, by rw [e1.out], HJ6.out, ⟨HS5.out.drewN _⟩, HBD5⟩, meas_w j 60 HJ6.out _ e1.out⟩
        · have h7 : decide (x > 0) = true := decide_eq_true (by omega)
          have h8 : (0 : Int) < x := by omega
          have HX := Aside0.mk hx1
          clear hx0 hx1
          go_wp2_with fail
          go_quiet ((first
            | (go_at_call 18; exact Calls.quiet_of_same (v := .int .i64 x) ((counts_Get.st (HS5.out.drewN _) (a : Int)).mono (fun e w' h => ⟨h.1.trans (by rw [HG.out]), h.2.symm⟩)))
            | (go_at_call 19; exact Calls.quiet_of_same (v := .bool (y == 0)) ((counts_Fresh.st (HS5.out.drewN _) (a : Int)).mono (fun e w' h => ⟨h.1.trans (by rw [HFR.out]; rw [decide_eq_true HX.out]; rfl), h.2.symm⟩)))))
          clear c1 c2 h7 h8
          go_wp2_with fail
          exact ⟨⟨j + 1, _, _, by rw [e1.out], HJ6.out, ⟨HS5.out.drewN _⟩, HBD5⟩, meas_w j 60 HJ6.out _ e1.out⟩
    · clear h1
      go_wp2
      go_ret
      exact ⟨rfl, HS.out.below⟩
    · clear h1
      go_wp2
      go_ret
      exact ⟨rfl, HS.out.below⟩
end Go.Proofs.Ytinhiigkfabcfaa.P
