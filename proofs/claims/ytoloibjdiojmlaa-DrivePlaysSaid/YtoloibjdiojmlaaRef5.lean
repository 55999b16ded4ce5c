/- The reference's Corrupt. -/
import Derived.Test.YtoloibjdiojmlaaRef4
namespace Go.Proofs.Ytoloibjdiojmlaa.P
open Go.RowKit Go.Proofs.YtoloibjdiojmlaaW.PrintWords Go.Proofs.YtoloibjdiojmlaaW.PrintLast Go.Proofs.YtoloibjdiojmlaaW.PrintMore Go.Proofs.Ytoloibjdiojmlaa.Sep
set_option linter.unusedVariables false
set_option linter.unusedSimpArgs false
attribute [local go_sem] max2_int min2_int max_two min_two max_three min_three max_four min_four
theorem set_same {α : Type} (l : List α) (k : Nat) (z : α) : l.set k (l.getD k z) = l := by
  apply List.ext_getElem?
  intro i
  by_cases hi : k = i
  · subst hi
    rcases Nat.lt_or_ge k l.length with h | h
    · rw [List.getElem?_set_self h, List.getD_eq_getElem?_getD, List.getElem?_eq_getElem h]
      rfl
    · rw [List.set_eq_of_length_le h]
  · rw [List.getElem?_set_ne hi]
section
variable {w0 w : World} {ps : List HP} {g : Nat} {D : DV}
def rt_T : Bool × List (List Nat × List Nat) := (true, [([], []), ([0], [0]), ([1], [1]), ([2], [2]), ([], []), ([3, 4], [3, 4]), ([5], [5]), ([], []), ([6, 7], [6, 7]), ([8], [8]), ([], []), ([], []), ([11], [11]), ([12], [12]), ([13], [13]), ([], []), ([14, 15], [14, 15]), ([16], [16]), ([], []), ([17, 18], [17, 18]), ([19], [19]), ([], []), ([20, 21], [20, 21]), ([22], [22]), ([], []), ([24], [24]), ([23, 25], [23, 25]), ([9, 10, 0, 1, 2, 3, 4, 5, 6, 7, 8, 9, 10, 11, 12, 13, 14, 15, 16, 17, 18, 19, 20, 21, 22, 23, 24, 25, 26], [9, 10]), ([27, 26, 0, 1, 2, 3, 4, 5, 6, 7, 8, 9, 10, 11, 12, 13, 14, 15, 16, 17, 18, 19, 20, 21, 22, 23, 24, 25, 26], [26, 27])])
def rt_B : List Nat := [0, 1, 3, 7, 0, 31, 63, 0, 255, 511, 0, 0, 2048, 6144, 14336, 0, 63488, 129024, 0, 522240, 1046528, 0, 4192256, 8386560, 0, 16777216, 67106816, 134217727, 268435455]
theorem rt_tab : rtab .any (opsOf Try.f28 7) = rt_T := by kernel_rfl
theorem rt_bits : waitsOk rt_T.2 rt_B = true := by kernel_rfl
set_option maxHeartbeats 8000000 in
set_option maxRecDepth 100000 in
theorem ref_Corrupt.st (h : St w0 w (rdr g D :: ps)) (s j m : Int) (hsec : ∀ i, i < D.hs.length → ∀ x ∈ D.hs.getD i [] :: D.ts.getD i [], x.length = 256) (hst : D.steps < 1000000) :
    Calls Try.prog 28 #[.pointer (some ⟨g, 0, none⟩), .int .i64 s, .int .i64 j, .int .i64 m] w fun e w' => CorruptPost w0 ps (rdr g) D s j m e w' := by
  have HH := Aside0.mk h
  clear h
  by_cases hmay : mayC D s j m
  · obtain ⟨hi, hj, hm⟩ := hmay
    have HMAY := Aside0.mk (show mayC D s j m from ⟨hi, hj, hm⟩)
    have HI := Aside0.mk hi
    obtain ⟨i, rfl, hin⟩ : ∃ i : Nat, s = i ∧ i < D.hs.length := by
      unfold isS at hi
      simp only [Bool.and_eq_true, decide_eq_true_eq] at hi
      exact ⟨s.toNat, by omega, by omega⟩
    obtain ⟨j, rfl⟩ := Int.eq_ofNat_of_zero_le hj.1
    have HJ := Aside0.mk (show j < 256 from by omega)
    have HM := Aside0.mk (show 0 ≤ m ∧ m < 256 from by omega)
    have HIN := Aside0.mk hin
    obtain ⟨hp, ⟨A, c, vs⟩, hs1⟩ := rdr_out HH.out
    have HP0 := Aside0.mk hp
    have HP := Aside0.mk (corruptD_ok hp i j m)
    obtain ⟨n, hn⟩ : ∃ n, D.hs.length = n := ⟨_, rfl⟩
    have HN := Aside0.mk hn
    have HVL := Aside0.mk (show i < vs.length from by
      have h9 := St.spr_len (hs1.front 2)
      rw [rowsD_len hp] at h9
      dsimp only at h9
      omega)
    obtain ⟨ts, hs2⟩ := rdr_open hp hs1 i hin
    dsimp only at hs2
    obtain ⟨xs, hxs⟩ : ∃ xs, D.hs.getD i [] :: D.ts.getD i [] = xs := ⟨_, rfl⟩
    have HXS := Aside0.mk hxs
    have HSEC := Aside0.mk (show ∀ x ∈ xs, x.length = 256 from by rw [← hxs]; exact hsec i hin)
    have HXL := Aside0.mk (show 0 < xs.length ∧ xs.length ≤ 1000001 from by
      rw [← hxs, List.length_cons]
      have : (D.ts.getD i []).length ≤ D.steps := by
        rw [List.getD_eq_getElem?_getD]
        cases hq : D.ts[i]? with
        | none => exact Nat.zero_le _
        | some t => exact hp.2.2.2 t (List.mem_of_getElem? hq)
      omega)
    rw [hxs, hn] at hs2
    obtain ⟨v, hv⟩ : ∃ v, vs.getD i triN = v := ⟨_, rfl⟩
    rw [hv] at hs2
    obtain ⟨q1, q2, ad2, q3, _⟩ := grp_at hs2 0 HXL.out.1
    obtain ⟨A2, n2, c2⟩ := v
    dsimp only at q1 q3
    subst q3
    obtain ⟨gL, hA, _⟩ := (hs2.front 4).row_at i (by rw [← hn]; exact hin) triN
    subst hA
    have HTSL := Aside0.mk q2
    have HN2 := Aside0.mk q1
    have HV := Aside0.mk hv
    have HS2 := Aside0.mk (show St w0 w (qrow kSl 33 (.slice (some ad2) n2 c2) ts :: spr EB ts (midM (turnS j m) xs 0) none :: spr EG vs (rowsD D) (some i) :: blk g (rCells (some ⟨gL, 0, none⟩) n c D) 58 :: row kSl 68 (.slice (some ⟨gL, 0, none⟩) n c) vs :: ps) from by rw [midM_start]; exact hs2)
    have h1 : decide ((j : Int) < 0) = false := decide_eq_false (by omega)
    have h2 : decide ((j : Int) > 255) = false := decide_eq_false (by omega)
    have h3 : decide (m < 0) = false := decide_eq_false (by omega)
    have h4 : decide (m > 255) = false := decide_eq_false (by omega)
    have h1p : ¬ (j : Int) < 0 := by omega
    have h2p : ¬ (j : Int) > 255 := by omega
    have h3p : ¬ m < 0 := by omega
    have h4p : ¬ m > 255 := by omega
    have h5 : (i : Int) < (n : Int) := by omega
    have e1 : IntKind.u8.wrap m = m := by rw [IntKind.wrap_u8']; omega
    clear hi hj hm hs1 hs2 hp hn hxs hin q1 q2 hv hsec hst
    go_enter Try.func28, Try.ntmps28
    go_wp2_with fail
    refine (ref_there.st HH.out i).mono ?_
    rintro e w' ⟨rfl, rfl⟩
    rw [HI.out]
    go_wp2_with fail
    go_loopw [10] (fun ix wr => ∃ q : Nat, ix = .int .i64 (q : Int) ∧ q ≤ xs.length ∧ Aside0 (St w0 wr (qrow kSl 33 (.slice (some ad2) n2 c2) ts :: spr EB ts (midM (turnS j m) xs q) none :: spr EG vs (rowsD D) (some i) :: blk g (rCells (some ⟨gL, 0, none⟩) n c D) 58 :: row kSl 68 (.slice (some ⟨gL, 0, none⟩) n c) vs :: ps))) (fun ix _ => xs.length - (intOf ix).toNat)
    case atStart => exact ⟨0, rfl, Nat.zero_le _, HS2⟩
    case round =>
      clear HS2
      obtain ⟨q, rfl, hq, HS⟩ := hrel
      have k0 := (rdr_cells (HS.out.front 3)).1
      have kc := (St.kSl_cell (HS.out.front 4) i (by rw [← HN.out]; exact HIN.out)).1
      rw [HV.out] at kc
      replace kc : wr.cell? ⟨gL, i, none⟩ = some (.slice (some ad2) n2 c2) := kc
      by_cases hlt : q < xs.length
      · have h7 : decide ((q : Int) < (n2 : Int)) = true := decide_eq_true (by have := HN2.out; omega)
        have h8 : (q : Int) < (n2 : Int) := by have := HN2.out; omega
        have h8n : q < n2 := by omega
        have e2 := Aside0.mk (show wrap64 ((q : Int) + 1) = ((q + 1 : Nat) : Int) from by have := HXL.out; unfold wrap64; omega)
        have HME := Aside0.mk (measM xs.length q hlt)
        have HLT := Aside0.mk hlt
        have hs := HS.out.drew
        obtain ⟨_, _, ad2', r3, r4, r5, _⟩ := grp_at (v := (some ad2, n2, c2)) hs q (by rw [midM_len _ _ _ hq]; exact hlt)
        injection r3 with r3
        subst r3
        rw [midM_get _ _ _ _ hlt] at r5
        have hs5 := St.spr_take hs.swap q (by rw [HTSL.out]; exact hlt) []
        rw [midM_get _ _ _ _ hlt] at hs5
        obtain ⟨t3, ht3⟩ : ∃ t3, ts.getD q triN = t3 := ⟨_, rfl⟩
        obtain ⟨x3, hx3⟩ : ∃ x3, xs.getD q [] = x3 := ⟨_, rfl⟩
        have HL3 := Aside0.mk (show x3.length = 256 from by
          refine HSEC.out x3 ?_
          rw [← hx3, List.getD_eq_getElem?_getD, List.getElem?_eq_getElem hlt]
          exact List.getElem_mem _)
        rw [ht3, hx3] at hs5
        rw [ht3] at r4 r5
        rw [hx3, HL3.out] at r5
        obtain ⟨A3, n3, c3⟩ := t3
        dsimp only at r5
        subst r5
        obtain ⟨gb, hA3, hcb, hfb, hsetb⟩ := (St.swap hs5).row_at j HJ.out 0
        dsimp only at hA3
        subst hA3
        replace r4 : wr.drew.cell? (ad2.add q) = some (.slice (some ⟨gb, 0, none⟩) 256 c3) := r4
        obtain ⟨y, hy⟩ : ∃ y, x3.getD j 0 = y := ⟨_, rfl⟩
        rw [hy] at hcb
        have HFB := Aside0.mk hfb
        have HCB := Aside0.mk hcb
        have a1 := St.spr_put (E := EB) (v := (some ⟨gb, 0, none⟩, 256, c3)) (y := x3.set j (xorB y m)) (St.swap (hsetb (xorB y m))) (by rw [HTSL.out]; exact hlt)
        have hts : ts.set q (some ⟨gb, 0, none⟩, 256, c3) = ts := by rw [← ht3]; exact set_same ts q triN
        have hmid : (midM (turnS j m) xs q).set q (x3.set j (xorB y m)) = midM (turnS j m) xs (q + 1) := by
          rw [← midM_next (turnS j m) xs q [] hlt, hx3]
          unfold turnS
          rw [hy]
        rw [hts, hmid] at a1
        have HS7 := Aside0.mk (St.swap a1)
        have HHE := Aside0.mk (show (fun W : World => W.cell? ⟨g, 0, none⟩ = some (.slice (some ⟨gL, 0, none⟩) n c) ∧ W.cell? ⟨gL, i, none⟩ = some (.slice (some ad2) n2 c2) ∧ W.cell? (ad2.add q) = some (.slice (some ⟨gb, 0, none⟩) 256 c3) ∧ W.cell? ⟨gb, j, none⟩ = some (.int .u8 y)) wr.drew from ⟨k0, kc, r4, hcb⟩)
        have h9 : (j : Int) < 256 := by have := HJ.out; omega
        have h9n : j < 256 := HJ.out
        clear a1 hts hmid hs hs5 r4 ht3 hx3 hcb hfb hsetb hy hlt hq
        go_upto_region 7 with fail
        clear k0 kc
        refine stepStartD (fun W : World => W.cell? ⟨g, 0, none⟩ = some (.slice (some ⟨gL, 0, none⟩) n c) ∧ W.cell? ⟨gL, i, none⟩ = some (.slice (some ad2) n2 c2) ∧ W.cell? (ad2.add q) = some (.slice (some ⟨gb, 0, none⟩) 256 c3) ∧ W.cell? ⟨gb, j, none⟩ = some (.int .u8 y)) 29 [0, 1, 2, 3, 4, 5, 6, 7, 8, 9, 10, 11, 12, 13, 14, 15, 16, 17, 18, 19, 20, 21, 22, 23, 24, 25, 26, 27, 28] [28] rt_tab rt_bits (by kernel_rfl) rfl HHE.out (fun HT_ HW_ hHeld => ?_)
        iterate 3 (refine stepPu (v := ?_) rfl rfl (any_of HT_.out (by kernel_rfl)) (fun _ _ _ h => h) (Or.inl ⟨by rfl, ?_⟩) (a' := ?_) ?_ ?_; rotate_left; (· intro w'; go_simp; with_reducible rfl); rotate_left; (· (simp only [Act.put, List.setIfInBounds_toArray, List.set_cons_zero, List.set_cons_succ, i64_w, i32_w]; rfl)))
        (refine stepLd (v := ?_) rfl rfl (take_ofW HT_.out HW_.out (by kernel_rfl)) (fun _ _ _ h => h) (Or.inl ⟨by rfl, ?_⟩) hHeld (a' := ?_) ?_ ?_; rotate_left; (· rintro w' ⟨s0, s1, s2, s3⟩; go_simp; with_reducible rfl); rotate_left; (· (simp only [Act.put, List.setIfInBounds_toArray, List.set_cons_zero, List.set_cons_succ, i64_w, i32_w]; rfl)))
        iterate 2 (refine stepPu (v := ?_) rfl rfl (any_of HT_.out (by kernel_rfl)) (fun _ _ _ h => h) (Or.inl ⟨by rfl, ?_⟩) (a' := ?_) ?_ ?_; rotate_left; (· intro w'; go_simp; with_reducible rfl); rotate_left; (· (simp only [Act.put, List.setIfInBounds_toArray, List.set_cons_zero, List.set_cons_succ, i64_w, i32_w]; rfl)))
        (refine stepLd (v := ?_) rfl rfl (take_ofW HT_.out HW_.out (by kernel_rfl)) (fun _ _ _ h => h) (Or.inl ⟨by rfl, ?_⟩) hHeld (a' := ?_) ?_ ?_; rotate_left; (· rintro w' ⟨s0, s1, s2, s3⟩; go_simp; with_reducible rfl); rotate_left; (· (simp only [Act.put, List.setIfInBounds_toArray, List.set_cons_zero, List.set_cons_succ, i64_w, i32_w]; rfl)))
        iterate 2 (refine stepPu (v := ?_) rfl rfl (any_of HT_.out (by kernel_rfl)) (fun _ _ _ h => h) (Or.inl ⟨by rfl, ?_⟩) (a' := ?_) ?_ ?_; rotate_left; (· intro w'; go_simp; with_reducible rfl); rotate_left; (· (simp only [Act.put, List.setIfInBounds_toArray, List.set_cons_zero, List.set_cons_succ, i64_w, i32_w]; rfl)))
        (refine stepLd (v := ?_) rfl rfl (take_ofW HT_.out HW_.out (by kernel_rfl)) (fun _ _ _ h => h) (Or.inl ⟨by rfl, ?_⟩) hHeld (a' := ?_) ?_ ?_; rotate_left; (· rintro w' ⟨s0, s1, s2, s3⟩; go_simp; with_reducible rfl); rotate_left; (· (simp only [Act.put, List.setIfInBounds_toArray, List.set_cons_zero, List.set_cons_succ, i64_w, i32_w]; rfl)))
        iterate 4 (refine stepPu (v := ?_) rfl rfl (any_of HT_.out (by kernel_rfl)) (fun _ _ _ h => h) (Or.inl ⟨by rfl, ?_⟩) (a' := ?_) ?_ ?_; rotate_left; (· intro w'; go_simp; with_reducible rfl); rotate_left; (· (simp only [Act.put, List.setIfInBounds_toArray, List.set_cons_zero, List.set_cons_succ, i64_w, i32_w]; rfl)))
        (refine stepLd (v := ?_) rfl rfl (take_ofW HT_.out HW_.out (by kernel_rfl)) (fun _ _ _ h => h) (Or.inl ⟨by rfl, ?_⟩) hHeld (a' := ?_) ?_ ?_; rotate_left; (· rintro w' ⟨s0, s1, s2, s3⟩; go_simp; with_reducible rfl); rotate_left; (· (simp only [Act.put, List.setIfInBounds_toArray, List.set_cons_zero, List.set_cons_succ, i64_w, i32_w]; rfl)))
        iterate 2 (refine stepPu (v := ?_) rfl rfl (any_of HT_.out (by kernel_rfl)) (fun _ _ _ h => h) (Or.inl ⟨by rfl, ?_⟩) (a' := ?_) ?_ ?_; rotate_left; (· intro w'; go_simp; with_reducible rfl); rotate_left; (· (simp only [Act.put, List.setIfInBounds_toArray, List.set_cons_zero, List.set_cons_succ, i64_w, i32_w]; rfl)))
        (refine stepLd (v := ?_) rfl rfl (take_ofW HT_.out HW_.out (by kernel_rfl)) (fun _ _ _ h => h) (Or.inl ⟨by rfl, ?_⟩) hHeld (a' := ?_) ?_ ?_; rotate_left; (· rintro w' ⟨s0, s1, s2, s3⟩; go_simp; with_reducible rfl); rotate_left; (· (simp only [Act.put, List.setIfInBounds_toArray, List.set_cons_zero, List.set_cons_succ, i64_w, i32_w]; rfl)))
        iterate 2 (refine stepPu (v := ?_) rfl rfl (any_of HT_.out (by kernel_rfl)) (fun _ _ _ h => h) (Or.inl ⟨by rfl, ?_⟩) (a' := ?_) ?_ ?_; rotate_left; (· intro w'; go_simp; with_reducible rfl); rotate_left; (· (simp only [Act.put, List.setIfInBounds_toArray, List.set_cons_zero, List.set_cons_succ, i64_w, i32_w]; rfl)))
        (refine stepLd (v := ?_) rfl rfl (take_ofW HT_.out HW_.out (by kernel_rfl)) (fun _ _ _ h => h) (Or.inl ⟨by rfl, ?_⟩) hHeld (a' := ?_) ?_ ?_; rotate_left; (· rintro w' ⟨s0, s1, s2, s3⟩; go_simp; with_reducible rfl); rotate_left; (· (simp only [Act.put, List.setIfInBounds_toArray, List.set_cons_zero, List.set_cons_succ, i64_w, i32_w]; rfl)))
        iterate 2 (refine stepPu (v := ?_) rfl rfl (any_of HT_.out (by kernel_rfl)) (fun _ _ _ h => h) (Or.inl ⟨by rfl, ?_⟩) (a' := ?_) ?_ ?_; rotate_left; (· intro w'; go_simp; with_reducible rfl); rotate_left; (· (simp only [Act.put, List.setIfInBounds_toArray, List.set_cons_zero, List.set_cons_succ, i64_w, i32_w]; rfl)))
        (refine stepLd (v := ?_) rfl rfl (take_ofW HT_.out HW_.out (by kernel_rfl)) (fun _ _ _ h => h) (Or.inl ⟨by rfl, ?_⟩) hHeld (a' := ?_) ?_ ?_; rotate_left; (· rintro w' ⟨s0, s1, s2, s3⟩; go_simp; with_reducible rfl); rotate_left; (· (simp only [Act.put, List.setIfInBounds_toArray, List.set_cons_zero, List.set_cons_succ, i64_w, i32_w]; rfl)))
        iterate 4 (refine stepPu (v := ?_) rfl rfl (any_of HT_.out (by kernel_rfl)) (fun _ _ _ h => h) (Or.inl ⟨by rfl, ?_⟩) (a' := ?_) ?_ ?_; rotate_left; (· intro w'; go_simp; with_reducible rfl); rotate_left; (· (simp only [Act.put, List.setIfInBounds_toArray, List.set_cons_zero, List.set_cons_succ, i64_w, i32_w]; rfl)))
        refine stepLast rfl rfl (one_of HT_.out (by kernel_rfl)) (by decide) (fun K hK => ?_)
        refine step_store_int (by rfl) 5 (.tmp 71) (.tmp 70) rfl gb j .u8 (xorB y m) rfl rfl (by rw [HCB.out]; rfl) HFB.out (by kernel_rfl) ?_
        refine hK.out _ _ ?_
        clear hK K
        refine done_ (done_of HT_.out (by kernel_rfl)) ?_
        clear HT_ HW_ hHeld
        simp only [Act.put]
        go_wp2_with fail
        go_roundw
        case rel => exact ⟨q + 1, by first | rfl | rw [e2.out], HLT.out, HS7⟩
        case measure => exact HME.out _ (by first | rfl | exact e2.out)
      · have h7 : decide ((q : Int) < (n2 : Int)) = false := decide_eq_false (by have := HN2.out; omega)
        have h8 : ¬ (q : Int) < (n2 : Int) := by have := HN2.out; omega
        have hqe : q = xs.length := by omega
        have h9 := HS.out
        rw [hqe, midM_stop] at h9
        have a0 := St.spr_put (E := EG) (v := (some ad2, n2, c2)) (y := xs.map (turnS j m)) (St.swap (grp_in (v := encT (some ad2, n2, c2)) h9)) HVL.out
        have hvs : vs.set i (some ad2, n2, c2) = vs := by rw [← HV.out]; exact set_same vs i triN
        have hrw : (rowsD D).set i (xs.map (turnS j m)) = rowsD (corruptD D i j m) := by
          rw [← HXS.out]
          exact (rows2_set HP0.out.1 i HIN.out _ _).symm
        rw [hvs, hrw] at a0
        have HF := Aside0.mk (St.back 2 a0)
        clear a0 h9 hqe hlt hq hvs hrw
        go_wp2_with fail
        go_ret
        refine ⟨fun _ => ⟨rfl, ?_⟩, fun q => absurd HMAY.out q⟩
        refine rdr_put (A := some ⟨gL, 0, none⟩) (c := c) (n := n) (vs := vs) HP.out (by unfold corruptD; dsimp only; rw [List.length_set]; exact HN.out) ?_
        exact HF.out
  · have HMAY := Aside0.mk hmay
    unfold mayC at hmay
    cases hi : isS D s with
    | false =>
      have HI := Aside0.mk hi
      clear hi hmay hsec hst
      go_enter Try.func28, Try.ntmps28
      go_wp2_with fail
      refine (ref_there.st HH.out s).mono ?_
      rintro e w' ⟨rfl, rfl⟩
      rw [HI.out]
      go_wp2
      go_ret
      exact ⟨fun q => absurd q HMAY.out, fun _ => ⟨rfl, HH.out⟩⟩
    | true =>
      have HI := Aside0.mk hi
      by_cases c1 : j < 0
      · have h1 : decide (j < 0) = true := decide_eq_true c1
        clear hi hmay hsec hst
        go_enter Try.func28, Try.ntmps28
        go_wp2_with fail
        refine (ref_there.st HH.out s).mono ?_
        rintro e w' ⟨rfl, rfl⟩
        rw [HI.out]
        go_wp2
        go_ret
        exact ⟨fun q => absurd q HMAY.out, fun _ => ⟨rfl, HH.out⟩⟩
      · have h1 : decide (j < 0) = false := decide_eq_false c1
        by_cases c2 : j > 255
        · have h2 : decide (j > 255) = true := decide_eq_true c2
          clear hi hmay hsec hst
          go_enter Try.func28, Try.ntmps28
          go_wp2_with fail
          refine (ref_there.st HH.out s).mono ?_
          rintro e w' ⟨rfl, rfl⟩
          rw [HI.out]
          go_wp2
          go_ret
          exact ⟨fun q => absurd q HMAY.out, fun _ => ⟨rfl, HH.out⟩⟩
        · have h2 : decide (j > 255) = false := decide_eq_false c2
          by_cases c3 : m < 0
          · have h3 : decide (m < 0) = true := decide_eq_true c3
            clear hi hmay hsec hst
            go_enter Try.func28, Try.ntmps28
            go_wp2_with fail
            refine (ref_there.st HH.out s).mono ?_
            rintro e w' ⟨rfl, rfl⟩
            rw [HI.out]
            go_wp2
            go_ret
            exact ⟨fun q => absurd q HMAY.out, fun _ => ⟨rfl, HH.out⟩⟩
          · have h3 : decide (m < 0) = false := decide_eq_false c3
            have c4 : m > 255 := by
              by_cases c4 : m > 255
              · exact c4
              · exact absurd ⟨hi, ⟨by omega, by omega⟩, by omega, by omega⟩ hmay
            have h4 : decide (m > 255) = true := decide_eq_true c4
            clear hi hmay hsec hst
            go_enter Try.func28, Try.ntmps28
            go_wp2_with fail
            refine (ref_there.st HH.out s).mono ?_
            rintro e w' ⟨rfl, rfl⟩
            rw [HI.out]
            go_wp2
            go_ret
            exact ⟨fun q => absurd q HMAY.out, fun _ => ⟨rfl, HH.out⟩⟩
end
end Go.Proofs.Ytoloibjdiojmlaa.P
