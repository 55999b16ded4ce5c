/- The reference's Write. -/
import Derived.Test.YtoloibjdiojmlaaRef1
namespace Go.Proofs.Ytoloibjdiojmlaa.P
open Go.RowKit Go.Proofs.YtoloibjdiojmlaaW.PrintWords Go.Proofs.YtoloibjdiojmlaaW.PrintLast Go.Proofs.YtoloibjdiojmlaaW.PrintMore Go.Proofs.Ytoloibjdiojmlaa.Sep
set_option linter.unusedVariables false
set_option linter.unusedSimpArgs false
attribute [local go_sem] max2_int min2_int max_two min_two max_three min_three max_four min_four
theorem infosl : (Try.prog.info? 33).map (fun i => (i.zero, i.size, i.bytes)) = some (some (.slice none 0 0), 1, 24) := by kernel_rfl
theorem rowsD_put (D : DV) (h : DOk D) (s : Nat) (hs : s < D.hs.length) (x : List Int) : rowsD (putD D s x) = (rowsD D).set s ((D.hs.getD s [] :: D.ts.getD s []) ++ [x]) := by
  have h1 := h.1
  apply List.ext_getElem?
  intro k
  unfold rowsD putD
  dsimp only
  rw [List.getElem?_zipWith]
  by_cases hk : k = s
  · subst hk
    rw [List.getElem?_set_self (by omega), List.getElem?_set_self (by rw [List.length_zipWith]; omega), List.getElem?_eq_getElem hs, List.getD_eq_getElem?_getD (l := D.hs), List.getElem?_eq_getElem hs]
    rfl
  · rw [List.getElem?_set_ne (fun q => hk q.symm), List.getElem?_set_ne (fun q => hk q.symm), List.getElem?_zipWith]
section
variable {w0 w : World} {ps : List HP} {g : Nat} {D : DV}
def rw_T : Bool × List (List Nat × List Nat) := (true, [([], []), ([0], [0]), ([1], [1]), ([2], [2]), ([], []), ([], []), ([5], [5]), ([6], [6]), ([7], [7]), ([], []), ([8, 9], [8, 9]), ([10], [10]), ([], []), ([], []), ([12, 13], [12, 13]), ([14], [14]), ([11, 15, 14], [11, 15]), ([3, 4, 0, 1, 2, 3, 4, 5, 6, 7, 8, 9, 10, 11, 12, 13, 14, 15, 16], [3, 4]), ([17, 16, 16, 0, 1, 2, 3, 4, 5, 6, 7, 8, 9, 10, 11, 12, 13, 14, 15, 16], [16, 17])])
def rw_B : List Nat := [0, 1, 3, 7, 0, 0, 32, 96, 224, 0, 992, 2016, 0, 0, 12288, 28672, 65504, 131071, 262143]
theorem rw_tab : rtab .any (opsOf Try.f23 6) = rw_T := by kernel_rfl
theorem rw_bits : waitsOk rw_T.2 rw_B = true := by kernel_rfl
set_option maxHeartbeats 8000000 in
set_option maxRecDepth 100000 in
theorem ref_Write.st {e1 : Nat} {A1 : Option Addr} {m1 c1 : Nat} {x : List Int} (h : St w0 w (rdr g D :: row (Kd.int .u8) e1 (.slice A1 m1 c1) x :: ps)) (s : Int) (hst : D.steps < 1000000) :
    Calls Try.prog 23 #[.pointer (some ⟨g, 0, none⟩), .int .i64 s, .slice A1 m1 c1] w fun e w' => WritePost w0 (row (Kd.int .u8) e1 (.slice A1 m1 c1) x :: ps) (rdr g) D s x e w' := by
  have HH := Aside0.mk h
  have HP := Aside0.mk (rdr_out h).1
  have HL := Aside0.mk h.swap.row_C.1
  have HST := Aside0.mk hst
  clear h hst
  cases hi : isS D s with
  | false =>
    have HI := Aside0.mk hi
    clear hi
    go_enter Try.func23, Try.ntmps23
    go_wp2_with fail
    refine (ref_there.st HH.out s).mono ?_
    rintro e w' ⟨rfl, rfl⟩
    rw [HI.out]
    go_wp2
    go_ret
    unfold WritePost
    rw [if_neg (fun q => by rw [HI.out] at q; cases q.1)]
    exact ⟨rfl, HH.out⟩
  | true =>
    have HI := Aside0.mk hi
    clear hi
    by_cases hm : m1 = 256
    · have HML := Aside0.mk hm
      obtain ⟨i, rfl, hin⟩ : ∃ i : Nat, s = i ∧ i < D.hs.length := by
        have hi := HI.out
        unfold isS at hi
        simp only [Bool.and_eq_true, decide_eq_true_eq] at hi
        exact ⟨s.toNat, by omega, by omega⟩
      have HIN := Aside0.mk hin
      have h6 : (((m1 : Int) != 256)) = false := by simp; omega
      have h7 : ((m1 : Int) == 256) = true := by simp; omega
      have h7p : (m1 : Int) = 256 := by omega
      clear hin hm
      by_cases hE : stepE D = 0
      · have HE := Aside0.mk hE
        clear hE
        go_enter Try.func23, Try.ntmps23
        go_wp2_with fail
        refine (ref_there.st HH.out i).mono ?_
        rintro e w' ⟨rfl, rfl⟩
        rw [HI.out]
        go_wp2_with fail
        refine (ref_step.st HH.out HST.out).mono ?_
        rintro e w1 ⟨rfl, hs1⟩
        rw [HE.out]
        have HPP := Aside0.mk (putD_ok (stepD_ok HP.out) HE.out HIN.out x HP.out)
        obtain ⟨D1, hD1⟩ : ∃ D1, stepD D = D1 := ⟨_, rfl⟩
        have HD1 := Aside0.mk hD1
        have HIN1 := Aside0.mk (show i < D1.hs.length from by rw [← hD1, stepD_hs]; exact HIN.out)
        have HTL0 := Aside0.mk (show (D1.ts.getD i []).length < 1000000 from by
          rw [← hD1, stepD_ts, List.getD_eq_getElem?_getD]
          cases hq : D.ts[i]? with
          | none => decide
          | some t => exact Nat.lt_of_le_of_lt (HP.out.2.2.2 t (List.mem_of_getElem? hq)) HST.out)
        rw [hD1] at hs1 HPP
        obtain ⟨hp1, ⟨A, c, vs⟩, hs1⟩ := rdr_out hs1
        have HP1 := Aside0.mk hp1
        obtain ⟨ts, hs2⟩ := rdr_open hp1 hs1 i HIN1.out
        dsimp only at hs2
        have hs2 := hs2.drew
        obtain ⟨xs, hxs⟩ : ∃ xs, D1.hs.getD i [] :: D1.ts.getD i [] = xs := ⟨_, rfl⟩
        have HXS := Aside0.mk hxs
        rw [hxs] at hs2
        have HVL := Aside0.mk (show i < vs.length from by have h9 := St.spr_len (hs2.front 2); rw [rowsD_len hp1] at h9; rw [h9]; exact HIN1.out)
        obtain ⟨q1, q2, _⟩ := St.q_C hs2
        have HTL := Aside0.mk (show ts.length ≤ 2000000 from by
          have h9 := St.spr_len hs2.swap
          rw [h9, ← hxs, List.length_cons]
          have := HTL0.out
          omega)
        obtain ⟨gL, hA, c0, _⟩ := (hs2.front 4).row_at i HIN1.out triN
        subst hA
        obtain ⟨v, hv⟩ : ∃ v, vs.getD i triN = v := ⟨_, rfl⟩
        rw [hv] at hs2 c0
        obtain ⟨A2, n2, c2⟩ := v
        have HV := Aside0.mk hv
        obtain ⟨n, hn⟩ : ∃ n, D1.hs.length = n := ⟨_, rfl⟩
        rw [hn] at hs2
        have HN := Aside0.mk hn
        have HS2 := Aside0.mk hs2
        have HSS : Aside0 (∀ W (ps' qs : List Sep.HP), St w0 W (qs ++ (blk g (rCells (some ⟨gL, 0, none⟩) n c D1) 58 :: row kSl 68 (.slice (some ⟨gL, 0, none⟩) n c) vs :: ps')) → (fun W : World => W.cell? ⟨g, 0, none⟩ = some (.slice (some ⟨gL, 0, none⟩) n c) ∧ W.cell? ⟨gL, i, none⟩ = some (.slice A2 n2 c2)) W) := ⟨fun W ps' qs H => by
          have H1 := St.drop_to qs H
          obtain ⟨gL', hA', c0', _⟩ := (H1.swap).row_at i (by rw [← HN.out]; exact HIN1.out) triN
          injection hA' with hA'
          injection hA' with hA'
          subst hA'
          rw [HV.out] at c0'
          exact ⟨(rdr_cells H1).1, c0'⟩⟩
        have h5 : (i : Int) < (n : Int) := by have := HIN1.out; omega
        clear hs1 hs2 hp1 hxs q1 q2 c0 hv hn hD1
        go_upto_region 6 with fail
        clear HH
        refine stepStartD (fun W : World => W.cell? ⟨g, 0, none⟩ = some (.slice (some ⟨gL, 0, none⟩) n c) ∧ W.cell? ⟨gL, i, none⟩ = some (.slice A2 n2 c2)) 19 [0, 1, 2, 3, 4, 5, 6, 7, 8, 9, 10, 11, 13, 12, 14, 15, 16, 17, 18] [18] rw_tab rw_bits (by kernel_rfl) rfl (HSS.out _ _ [_, _, _] HS2.out) (fun HT_ HW_ hHeld => ?_)
        iterate 3 (refine stepPu (v := ?_) rfl rfl (any_of HT_.out (by kernel_rfl)) (fun _ _ _ h => h) (Or.inl ⟨by rfl, ?_⟩) (a' := ?_) ?_ ?_; rotate_left; (· intro w'; go_simp; with_reducible rfl); rotate_left; (· (simp only [Act.put, List.setIfInBounds_toArray, List.set_cons_zero, List.set_cons_succ, i64_w, i32_w]; rfl)))
        (refine stepLd (v := ?_) rfl rfl (take_ofW HT_.out HW_.out (by kernel_rfl)) (fun _ _ _ h => h) (Or.inl ⟨by rfl, ?_⟩) hHeld (a' := ?_) ?_ ?_; rotate_left; (· rintro w' ⟨s0, s1⟩; go_simp; with_reducible rfl); rotate_left; (· (simp only [Act.put, List.setIfInBounds_toArray, List.set_cons_zero, List.set_cons_succ, i64_w, i32_w]; rfl)))
        iterate 4 (refine stepPu (v := ?_) rfl rfl (any_of HT_.out (by kernel_rfl)) (fun _ _ _ h => h) (Or.inl ⟨by rfl, ?_⟩) (a' := ?_) ?_ ?_; rotate_left; (· intro w'; go_simp; with_reducible rfl); rotate_left; (· (simp only [Act.put, List.setIfInBounds_toArray, List.set_cons_zero, List.set_cons_succ, i64_w, i32_w]; rfl)))
        (refine stepLd (v := ?_) rfl rfl (take_ofW HT_.out HW_.out (by kernel_rfl)) (fun _ _ _ h => h) (Or.inl ⟨by rfl, ?_⟩) hHeld (a' := ?_) ?_ ?_; rotate_left; (· rintro w' ⟨s0, s1⟩; go_simp; with_reducible rfl); rotate_left; (· (simp only [Act.put, List.setIfInBounds_toArray, List.set_cons_zero, List.set_cons_succ, i64_w, i32_w]; rfl)))
        iterate 2 (refine stepPu (v := ?_) rfl rfl (any_of HT_.out (by kernel_rfl)) (fun _ _ _ h => h) (Or.inl ⟨by rfl, ?_⟩) (a' := ?_) ?_ ?_; rotate_left; (· intro w'; go_simp; with_reducible rfl); rotate_left; (· (simp only [Act.put, List.setIfInBounds_toArray, List.set_cons_zero, List.set_cons_succ, i64_w, i32_w]; rfl)))
        (refine stepLd (v := ?_) rfl rfl (take_ofW HT_.out HW_.out (by kernel_rfl)) (fun _ _ _ h => h) (Or.inl ⟨by rfl, ?_⟩) hHeld (a' := ?_) ?_ ?_; rotate_left; (· rintro w' ⟨s0, s1⟩; go_simp; with_reducible rfl); rotate_left; (· (simp only [Act.put, List.setIfInBounds_toArray, List.set_cons_zero, List.set_cons_succ, i64_w, i32_w]; rfl)))
        (refine stepPu (v := ?_) rfl rfl (any_of HT_.out (by kernel_rfl)) (fun _ _ _ h => h) (Or.inl ⟨by rfl, ?_⟩) (a' := ?_) ?_ ?_; rotate_left; (· intro w'; go_simp; with_reducible rfl); rotate_left; (· (simp only [Act.put, List.setIfInBounds_toArray, List.set_cons_zero, List.set_cons_succ, i64_w, i32_w]; rfl)))
        refine stepOne rfl rfl (one_of HT_.out (by kernel_rfl)) (by decide) (fun K hK => ?_)
        refine step_ran (v := .slice (some ⟨w1.heap.size, 0, none⟩) 0 0) (w1 := w1.drew.alloc (.cells #[] 5)) (by rfl) (by first | (go_simp; done) | (go_simp; rfl)) ?_
        have HE0 := Aside0.mk (St.row_empty (enc := Value.int .u8) (h1 := fun _ => rfl) HS2.out 5)
        refine hK.out _ _ (HSS.out _ _ [_, _, _, _] HE0.out) (fun hHeld => ?_)
        clear hK K
        refine norm_ (a' := ?_) ?_ ?_
        rotate_left
        · show Act.put _ (some 35) _ = _
          simp only [Act.put, List.setIfInBounds_toArray, List.set_cons_zero, List.set_cons_succ, i64_w, i32_w]
          rfl
        refine stepOne rfl rfl (one_of HT_.out (by kernel_rfl)) (by decide) (fun K hK => ?_)
        refine St.append_rows_step (d := Kd.int .u8) (by rfl) (.tmp 35) (.tmp 36) 33 5 (.int .u8 0) 1 rfl Try.underlying33 infou8 rfl (by decide) (by decide) _ [] x A1 m1 c1 rfl rfl HE0.out ((St.front 6 HE0.out).row_C).2.2 (fun _ _ h => h) (by have := HML.out; simp; omega) ?_
        intro v4 w4 hs4
        rw [List.nil_append] at hs4
        obtain ⟨A4, c4, he4⟩ := hs4.row_slice
        subst he4
        have HS4 := Aside0.mk hs4
        clear hs4
        refine hK.out _ _ (HSS.out _ _ [_, _, _, _] HS4.out) (fun hHeld => ?_)
        clear hK K
        refine norm_ (a' := ?_) ?_ ?_
        rotate_left
        · show Act.put _ (some 37) _ = _
          simp only [Act.put, List.setIfInBounds_toArray, List.set_cons_zero, List.set_cons_succ, i64_w, i32_w]
          rfl
        refine stepOne rfl rfl (one_of HT_.out (by kernel_rfl)) (by decide) (fun K hK => ?_)
        refine step_ran (v := .slice (some ⟨w4.heap.size, 0, none⟩) 1 1) (w1 := w4.alloc (.cells #[.slice A4 x.length c4] 33)) (by rfl) (by first | (go_simp; done) | (go_simp; rfl)) ?_
        refine hK.out _ _ (HSS.out _ _ [_, _, _, _] (HS4.out.alloc _)) (fun hHeld => ?_)
        clear hK K
        refine norm_ (a' := ?_) ?_ ?_
        rotate_left
        · show Act.put _ (some 38) _ = _
          simp only [Act.put, List.setIfInBounds_toArray, List.set_cons_zero, List.set_cons_succ, i64_w, i32_w]
          rfl
        refine stepOne rfl rfl (one_of HT_.out (by kernel_rfl)) (by decide) (fun K hK => ?_)
        refine St.append_q_step (by rfl) (.tmp 34) (.tmp 38) 68 33 (.slice none 0 0) 24 rfl Try.underlying68 infosl rfl (by decide) _ ts (A4, x.length, c4) rfl rfl HS4.out.swap (by have := HTL.out; omega) ?_
        intro v5 w5 hs5
        obtain ⟨A5, c5, he5, _⟩ := St.q_slice hs5
        rw [List.length_append, List.length_singleton] at he5
        subst he5
        have HS5 := Aside0.mk hs5
        clear hs5
        refine hK.out _ _ (HSS.out _ _ [_, _, _, _] HS5.out) (fun hHeld => ?_)
        clear hK K
        refine norm_ (a' := ?_) ?_ ?_
        rotate_left
        · show Act.put _ (some 39) _ = _
          simp only [Act.put, List.setIfInBounds_toArray, List.set_cons_zero, List.set_cons_succ, i64_w, i32_w]
          rfl
        (refine stepPu (v := ?_) rfl rfl (any_of HT_.out (by kernel_rfl)) (fun _ _ _ h => h) (Or.inl ⟨by rfl, ?_⟩) (a' := ?_) ?_ ?_; rotate_left; (· intro w'; go_simp; with_reducible rfl); rotate_left; (· (simp only [Act.put, List.setIfInBounds_toArray, List.set_cons_zero, List.set_cons_succ, i64_w, i32_w]; rfl)))
        refine stepLast rfl rfl (one_of HT_.out (by kernel_rfl)) (by decide) (fun K hK => ?_)
        obtain ⟨gL', hA', hc6, hf6, hset6⟩ := (St.front 5 HS5.out).row_at i (by rw [← HN.out]; exact HIN1.out) triN
        injection hA' with hA'
        injection hA' with hA'
        subst hA'
        have HC6 := Aside0.mk hc6
        have HF6 := Aside0.mk hf6
        have a1 := (((hset6 (A5, ts.length + 1, c5)).front 3).front 3).swap
        have a2 := St.spr_snoc (v := (A4, x.length, c4)) (y := x) a1
        have a3 := a2.front 2
        have a4 := (grp_in (v := encT (A5, ts.length + 1, c5)) a3).front 2
        have a5 := (St.spr_put (v := (A5, ts.length + 1, c5)) (y := xs ++ [x]) a4 HVL.out).front 2
        have HS7 := Aside0.mk (St.cons_swap a5)
        clear a1 a2 a3 a4 a5
        clear hc6 hf6 hset6
        refine step_store_val (by rfl) 68 (.tmp 40) (.tmp 39) rfl gL i _ rfl rfl rfl rfl (by rw [HC6.out]; rfl) HF6.out (by kernel_rfl) ?_
        refine hK.out _ _ ?_
        clear hK K
        refine done_ (done_of HT_.out (by kernel_rfl)) ?_
        clear HT_ HW_ hHeld HSS
        simp only [Act.put]
        go_wp2_with fail
        go_ret
        unfold WritePost
        rw [if_pos ⟨HI.out, HL.out.symm.trans HML.out⟩, if_pos HE.out, Int.toNat_natCast, HD1.out]
        refine ⟨rfl, rdr_put (A := some ⟨gL, 0, none⟩) (c := c) (n := n) HPP.out HN.out (vs := vs.set i (A5, ts.length + 1, c5)) ?_⟩
        rw [rowsD_put D1 HP1.out i HIN1.out x, HXS.out]
        exact HS7.out
      · have HE := Aside0.mk (show stepE D = 4 from by unfold stepE at hE ⊢; split <;> simp_all)
        clear hE
        go_enter Try.func23, Try.ntmps23
        go_wp2_with fail
        refine (ref_there.st HH.out i).mono ?_
        rintro e w' ⟨rfl, rfl⟩
        rw [HI.out]
        go_wp2_with fail
        refine (ref_step.st HH.out HST.out).mono ?_
        rintro e w1 ⟨rfl, hs1⟩
        have HS1 := Aside0.mk hs1
        clear hs1
        rw [HE.out]
        go_wp2_with fail
        go_ret
        unfold WritePost
        rw [if_pos ⟨HI.out, HL.out.symm.trans HML.out⟩, if_neg (by rw [HE.out]; decide)]
        exact ⟨rfl, HS1.out⟩
    · have h6 : (((m1 : Int) != 256)) = true := by simp; omega
      have h7 : ((m1 : Int) == 256) = false := by simp; omega
      have HM := Aside0.mk hm
      clear hm
      go_enter Try.func23, Try.ntmps23
      go_wp2_with fail
      refine (ref_there.st HH.out s).mono ?_
      rintro e w' ⟨rfl, rfl⟩
      rw [HI.out]
      go_wp2_with fail
      go_ret
      unfold WritePost
      rw [if_neg (fun q => HM.out (HL.out.trans q.2))]
      exact ⟨rfl, HH.out⟩
end
end Go.Proofs.Ytoloibjdiojmlaa.P
