/- The reference's Flush, Cached. -/
import Derived.Test.YtoloibjdiojmlaaRef2
import Derived.Test.YtoloibjdiojmlaaPairs
namespace Go.Proofs.Ytoloibjdiojmlaa.P
open Go.RowKit Go.Proofs.YtoloibjdiojmlaaW.PrintWords Go.Proofs.YtoloibjdiojmlaaW.PrintLast Go.Proofs.YtoloibjdiojmlaaW.PrintMore Go.Proofs.Ytoloibjdiojmlaa.Sep
set_option linter.unusedVariables false
set_option linter.unusedSimpArgs false
attribute [local go_sem] max2_int min2_int max_two min_two max_three min_three max_four min_four
def midM {α : Type} (f : α → α) (t : List α) (q : Nat) : List α := (t.take q).map f ++ t.drop q
section
variable {α : Type} (f : α → α) (t : List α) (q : Nat) (z : α)
theorem midM_len (h : q ≤ t.length) : (midM f t q).length = t.length := by unfold midM; simp; omega
theorem midM_get (h : q < t.length) : (midM f t q).getD q z = t.getD q z := by
  unfold midM
  rw [List.getD_eq_getElem?_getD, List.getElem?_append_right (by simp; omega), List.length_map, List.length_take, Nat.min_eq_left (by omega), Nat.sub_self, List.getElem?_drop, Nat.add_zero, List.getD_eq_getElem?_getD]
theorem midM_next (h : q < t.length) : (midM f t q).set q (f (t.getD q z)) = midM f t (q + 1) := by
  unfold midM
  rw [List.set_append_right _ _ (by simp; omega), List.length_map, List.length_take, Nat.min_eq_left (by omega), Nat.sub_self, List.drop_eq_getElem_cons h, List.set_cons_zero, List.take_add_one, List.getElem?_eq_getElem h, List.map_append, List.append_assoc, List.getD_eq_getElem?_getD, List.getElem?_eq_getElem h]
  rfl
theorem midM_start : midM f t 0 = t := by unfold midM; simp
theorem midM_stop : midM f t t.length = t.map f := by unfold midM; simp
end
def lastR (xs : List (List Int)) : List (List Int) := xs.drop (xs.length - 1)
theorem lastR_cons (h : List Int) (t : List (List Int)) : lastR (h :: t) = [(h :: t).getLast (List.cons_ne_nil _ _)] := by
  unfold lastR
  rw [getLast_getD]
  have hl : (h :: t).length - 1 < (h :: t).length := by simp
  rw [List.drop_eq_getElem_cons hl, List.drop_of_length_le (by simp), List.getD_eq_getElem?_getD, List.getElem?_eq_getElem hl]
  rfl
theorem rowsD_flush (D : DV) (h : DOk D) : rowsD (flushD D) = (rowsD D).map lastR := by
  have h1 := h.1
  apply List.ext_getElem?
  intro k
  rw [List.getElem?_map]
  unfold rowsD flushD
  dsimp only
  rw [List.getElem?_zipWith, List.getElem?_zipWith, List.getElem?_map, List.getElem?_map]
  by_cases hk : k < D.hs.length
  · rw [List.getElem?_range hk, List.getElem?_eq_getElem hk, List.getElem?_eq_getElem (show k < D.ts.length by omega)]
    show some [lastS D k] = some (lastR (D.hs[k] :: D.ts[k]))
    rw [lastR_cons]
    unfold lastS
    have e1 : D.hs.getD k [] = D.hs[k] := by rw [List.getD_eq_getElem?_getD, List.getElem?_eq_getElem hk]; rfl
    have e2 : D.ts.getD k [] = D.ts[k]'(by omega) := by rw [List.getD_eq_getElem?_getD, List.getElem?_eq_getElem (by omega)]; rfl
    simp only [e1, e2]
  · rw [List.getElem?_eq_none (by simp; omega), List.getElem?_eq_none (show D.hs.length ≤ k by omega)]
    rfl
section
variable {w0 w : World} {ps : List HP} {g : Nat} {D : DV}
def rf_T : Bool × List (List Nat × List Nat) := (true, [([], []), ([0], [0]), ([1], [1]), ([2], [2]), ([], []), ([], []), ([5], [5]), ([6], [6]), ([7], [7]), ([], []), ([8, 9], [8, 9]), ([10], [10]), ([], []), ([12], [12]), ([13], [13]), ([14], [14]), ([], []), ([15, 16], [15, 16]), ([17], [17]), ([18], [18]), ([19], [19]), ([11, 20], [11, 20]), ([3, 4, 0, 1, 2, 3, 4, 5, 6, 7, 8, 9, 10, 11, 12, 13, 14, 15, 16, 17, 18, 19, 20, 21], [3, 4]), ([22, 21, 0, 1, 2, 3, 4, 5, 6, 7, 8, 9, 10, 11, 12, 13, 14, 15, 16, 17, 18, 19, 20, 21], [21, 22])])
def rf_B : List Nat := [0, 1, 3, 7, 0, 0, 32, 96, 224, 0, 992, 2016, 0, 4096, 12288, 28672, 0, 126976, 258048, 520192, 1044480, 2097120, 4194303, 8388607]
theorem rf_tab : rtab .any (opsOf Try.f25 7) = rf_T := by kernel_rfl
theorem rf_bits : waitsOk rf_T.2 rf_B = true := by kernel_rfl
set_option maxHeartbeats 8000000 in
set_option maxRecDepth 100000 in
theorem ref_Flush.st (h : St w0 w (rdr g D :: ps)) (hst : D.steps < 1000000) :
    Calls Try.prog 25 #[.pointer (some ⟨g, 0, none⟩)] w fun e w' => FlushPost w0 ps (rdr g) D e w' := by
  have HH := Aside0.mk h
  have HST := Aside0.mk hst
  have HP0 := Aside0.mk (rdr_out h).1
  clear h hst
  by_cases hE : stepE D = 0
  · have HE := Aside0.mk hE
    clear hE
    go_enter Try.func25, Try.ntmps25
    go_wp2_with fail
    refine (ref_step.st HH.out HST.out).mono ?_
    rintro e w1 ⟨rfl, hs1⟩
    rw [HE.out]
    obtain ⟨D1, hD1⟩ : ∃ D1, stepD D = D1 := ⟨_, rfl⟩
    rw [hD1] at hs1
    have HD1 := Aside0.mk hD1
    have HTB := Aside0.mk (show ∀ k, (D1.ts.getD k []).length < 1000000 from fun k => by
      rw [← hD1, stepD_ts, List.getD_eq_getElem?_getD]
      cases hq : D.ts[k]? with
      | none => decide
      | some t => exact Nat.lt_of_le_of_lt (HP0.out.2.2.2 t (List.mem_of_getElem? hq)) HST.out)
    obtain ⟨hp1, ⟨A, c, vs⟩, hs1⟩ := rdr_out hs1
    have HP1 := Aside0.mk hp1
    obtain ⟨n, hn⟩ : ∃ n, D1.hs.length = n := ⟨_, rfl⟩
    have HN := Aside0.mk hn
    unfold rdrM at hs1
    dsimp only at hs1
    rw [hn] at hs1
    have HRL := Aside0.mk (show (rowsD D1).length = n from (rowsD_len hp1).trans hn)
    have HRG := Aside0.mk (show ∀ q, q < n → (rowsD D1).getD q [] = D1.hs.getD q [] :: D1.ts.getD q [] from fun q hq => rowsD_get hp1 q (by rw [hn]; exact hq))
    obtain ⟨rows, hrows⟩ : ∃ rows, rowsD D1 = rows := ⟨_, rfl⟩
    rw [hrows] at hs1 HRL HRG
    have HROW := Aside0.mk hrows
    have HS1 := Aside0.mk (show St w0 w1 (spr EG vs (midM lastR rows 0) none :: blk g (rCells A n c D1) 58 :: row kSl 68 (.slice A n c) vs :: ps) from by rw [midM_start]; exact hs1.front 2)
    clear hs1 hp1 hn hrows hD1
    go_wp2_with fail
    go_loopw [4] (fun ix wr => ∃ (q : Nat) (vs : List Tri), ix = .int .i64 (q : Int) ∧ q ≤ n ∧ Aside0 (St w0 wr (spr EG vs (midM lastR rows q) none :: blk g (rCells A n c D1) 58 :: row kSl 68 (.slice A n c) vs :: ps))) (fun ix _ => n - (intOf ix).toNat)
    case atStart => exact ⟨0, _, rfl, Nat.zero_le _, HS1⟩
    case round =>
      clear HS1
      obtain ⟨q, vs, rfl, hq, HS⟩ := hrel
      have k0 := (rdr_cells (HS.out.front 1)).1
      by_cases hlt : q < n
      · have h1 : decide ((q : Int) < (n : Int)) = true := decide_eq_true (by omega)
        have h2 : (q : Int) < (n : Int) := by omega
        have HLT := Aside0.mk hlt
        have HN2 := Aside0.mk (show n ≤ 2048 from by rw [← HN.out]; exact HP1.out.2.1)
        have e0 := Aside0.mk (incM q (by have := HN2.out; omega))
        have HME := Aside0.mk (measM n q hlt)
        have HVL := Aside0.mk (show q < vs.length from by have h9 := St.spr_len HS.out; rw [midM_len _ _ _ (by rw [HRL.out]; omega), HRL.out] at h9; omega)
        have hs2 := (St.spr_take HS.out.drew q HVL.out []).swap
        rw [midM_get _ _ _ _ (by rw [HRL.out]; exact hlt)] at hs2
        obtain ⟨ts, hs2⟩ := grp_out hs2
        obtain ⟨xs, hxs⟩ : ∃ xs, rows.getD q [] = xs := ⟨_, rfl⟩
        rw [hxs] at hs2
        have HXS := Aside0.mk hxs
        have hxl : 0 < xs.length ∧ xs.length ≤ 1000000 := by
          rw [← hxs, HRG.out q hlt]
          have := HTB.out q
          rw [List.length_cons]
          omega
        obtain ⟨q1, q2, ad2, q3, _⟩ := grp_at hs2 0 hxl.1
        obtain ⟨gL, hA, c0, _⟩ := (hs2.front 4).row_at q hlt triN
        subst hA
        obtain ⟨v, hv⟩ : ∃ v, vs.getD q triN = v := ⟨_, rfl⟩
        rw [hv] at hs2 c0 q1 q3
        obtain ⟨A2, n2, c2⟩ := v
        dsimp only at q1 q3
        subst q3
        obtain ⟨k, hk⟩ : ∃ k, k + 1 = n2 := ⟨n2 - 1, by omega⟩
        have hn2c := (St.q_C hs2).2.1
        have hs3 := St.q_drop hs2 k (by omega)
        obtain ⟨i0, hi0, hsz⟩ := Option.map_eq_some_iff.1 (show (Try.prog.info? 33).map (·.size) = some 1 from by kernel_rfl)
        have hcut := cut_from (P := Try.prog) 68 33 .i64 Try.underlying68 hi0 1 hsz (some ad2) n2 c2 (k : Int) (Int.natCast_nonneg k) (by omega)
        rw [Int.toNat_natCast] at hcut
        rw [show kSl.sz = 1 from rfl] at hs3
        obtain ⟨A', hA'⟩ : ∃ A', (if c2 = k then some ad2 else Option.map (fun x : Addr => x.add (k * 1)) (some ad2)) = A' := ⟨_, rfl⟩
        rw [hA'] at hs3 hcut
        rw [show n2 - k = 1 from by omega] at hs3 hcut
        have HV := Aside0.mk hv
        have HS2 := Aside0.mk hs2
        have HS3 := Aside0.mk hs3
        have HKX := Aside0.mk (show xs.length - 1 = k from by omega)
        have HSS := Aside0.mk (show (fun W : World => W.cell? ⟨g, 0, none⟩ = some (.slice (some ⟨gL, 0, none⟩) n c) ∧ W.cell? ⟨gL, q, none⟩ = some (.slice (some ad2) n2 c2)) wr.drew from ⟨(rdr_cells (HS2.out.front 3)).1, c0⟩)
        obtain ⟨gL', hA2, hc6, hf6, hset6⟩ := (St.front 4 HS3.out).row_at q hlt triN
        injection hA2 with hA2
        injection hA2 with hA2
        subst hA2
        have HC6 := Aside0.mk hc6
        have HF6 := Aside0.mk hf6
        have a1 := ((hset6 (A', 1, c2 - k)).front 2)
        have a2 := (St.spr_drop a1 k).front 2
        have a3 := (grp_in (v := encT (A', 1, c2 - k)) a2).front 2
        have a4 := (St.spr_put (v := (A', 1, c2 - k)) (y := xs.drop k) a3 HVL.out).front 2
        have HS7 := Aside0.mk (St.front 2 (St.cons_swap a4))
        have e1 : wrap64 ((n2 : Int) - 1) = (k : Int) := by unfold wrap64; omega
        clear a1 a2 a3 a4 hc6 hf6 hset6 hs2 hs3 hxs hxl q1 q2 c0 hv hk hn2c hA' hlt hq
        go_upto_region 7 with fail
        clear k0
        refine stepStartD (fun W : World => W.cell? ⟨g, 0, none⟩ = some (.slice (some ⟨gL, 0, none⟩) n c) ∧ W.cell? ⟨gL, q, none⟩ = some (.slice (some ad2) n2 c2)) 24 [0, 1, 2, 3, 4, 5, 6, 7, 8, 9, 10, 11, 12, 13, 14, 15, 16, 17, 18, 19, 20, 21, 22, 23] [23] rf_tab rf_bits (by kernel_rfl) rfl HSS.out (fun HT_ HW_ hHeld => ?_)
        iterate 3 (refine stepPu (v := ?_) rfl rfl (any_of HT_.out (by kernel_rfl)) (fun _ _ _ h => h) (Or.inl ⟨by rfl, ?_⟩) (a' := ?_) ?_ ?_; rotate_left; (· intro w'; go_simp; with_reducible rfl); rotate_left; (· (simp only [Act.put, List.setIfInBounds_toArray, List.set_cons_zero, List.set_cons_succ, i64_w, i32_w]; rfl)))
        (refine stepLd (v := ?_) rfl rfl (take_ofW HT_.out HW_.out (by kernel_rfl)) (fun _ _ _ h => h) (Or.inl ⟨by rfl, ?_⟩) hHeld (a' := ?_) ?_ ?_; rotate_left; (· rintro w' ⟨s0, s1⟩; go_simp; with_reducible rfl); rotate_left; (· (simp only [Act.put, List.setIfInBounds_toArray, List.set_cons_zero, List.set_cons_succ, i64_w, i32_w]; rfl)))
        iterate 4 (refine stepPu (v := ?_) rfl rfl (any_of HT_.out (by kernel_rfl)) (fun _ _ _ h => h) (Or.inl ⟨by rfl, ?_⟩) (a' := ?_) ?_ ?_; rotate_left; (· intro w'; go_simp; with_reducible rfl); rotate_left; (· (simp only [Act.put, List.setIfInBounds_toArray, List.set_cons_zero, List.set_cons_succ, i64_w, i32_w]; rfl)))
        (refine stepLd (v := ?_) rfl rfl (take_ofW HT_.out HW_.out (by kernel_rfl)) (fun _ _ _ h => h) (Or.inl ⟨by rfl, ?_⟩) hHeld (a' := ?_) ?_ ?_; rotate_left; (· rintro w' ⟨s0, s1⟩; go_simp; with_reducible rfl); rotate_left; (· (simp only [Act.put, List.setIfInBounds_toArray, List.set_cons_zero, List.set_cons_succ, i64_w, i32_w]; rfl)))
        iterate 2 (refine stepPu (v := ?_) rfl rfl (any_of HT_.out (by kernel_rfl)) (fun _ _ _ h => h) (Or.inl ⟨by rfl, ?_⟩) (a' := ?_) ?_ ?_; rotate_left; (· intro w'; go_simp; with_reducible rfl); rotate_left; (· (simp only [Act.put, List.setIfInBounds_toArray, List.set_cons_zero, List.set_cons_succ, i64_w, i32_w]; rfl)))
        (refine stepLd (v := ?_) rfl rfl (take_ofW HT_.out HW_.out (by kernel_rfl)) (fun _ _ _ h => h) (Or.inl ⟨by rfl, ?_⟩) hHeld (a' := ?_) ?_ ?_; rotate_left; (· rintro w' ⟨s0, s1⟩; go_simp; with_reducible rfl); rotate_left; (· (simp only [Act.put, List.setIfInBounds_toArray, List.set_cons_zero, List.set_cons_succ, i64_w, i32_w]; rfl)))
        iterate 3 (refine stepPu (v := ?_) rfl rfl (any_of HT_.out (by kernel_rfl)) (fun _ _ _ h => h) (Or.inl ⟨by rfl, ?_⟩) (a' := ?_) ?_ ?_; rotate_left; (· intro w'; go_simp; with_reducible rfl); rotate_left; (· (simp only [Act.put, List.setIfInBounds_toArray, List.set_cons_zero, List.set_cons_succ, i64_w, i32_w]; rfl)))
        (refine stepLd (v := ?_) rfl rfl (take_ofW HT_.out HW_.out (by kernel_rfl)) (fun _ _ _ h => h) (Or.inl ⟨by rfl, ?_⟩) hHeld (a' := ?_) ?_ ?_; rotate_left; (· rintro w' ⟨s0, s1⟩; go_simp; with_reducible rfl); rotate_left; (· (simp only [Act.put, List.setIfInBounds_toArray, List.set_cons_zero, List.set_cons_succ, i64_w, i32_w]; rfl)))
        iterate 2 (refine stepPu (v := ?_) rfl rfl (any_of HT_.out (by kernel_rfl)) (fun _ _ _ h => h) (Or.inl ⟨by rfl, ?_⟩) (a' := ?_) ?_ ?_; rotate_left; (· intro w'; go_simp; with_reducible rfl); rotate_left; (· (simp only [Act.put, List.setIfInBounds_toArray, List.set_cons_zero, List.set_cons_succ, i64_w, i32_w]; rfl)))
        (refine stepLd (v := ?_) rfl rfl (take_ofW HT_.out HW_.out (by kernel_rfl)) (fun _ _ _ h => h) (Or.inl ⟨by rfl, ?_⟩) hHeld (a' := ?_) ?_ ?_; rotate_left; (· rintro w' ⟨s0, s1⟩; go_simp; with_reducible rfl); rotate_left; (· (simp only [Act.put, List.setIfInBounds_toArray, List.set_cons_zero, List.set_cons_succ, i64_w, i32_w]; rfl)))
        iterate 4 (refine stepPu (v := ?_) rfl rfl (any_of HT_.out (by kernel_rfl)) (fun _ _ _ h => h) (Or.inl ⟨by rfl, ?_⟩) (a' := ?_) ?_ ?_; rotate_left; (· intro w'; go_simp; with_reducible rfl); rotate_left; (· (simp only [Act.put, List.setIfInBounds_toArray, List.set_cons_zero, List.set_cons_succ, i64_w, i32_w]; rfl)))
        refine stepLast rfl rfl (one_of HT_.out (by kernel_rfl)) (by decide) (fun K hK => ?_)
        refine step_store_val (by rfl) 68 (.tmp 41) (.tmp 40) rfl gL q _ rfl rfl rfl rfl (by rw [HC6.out]; rfl) HF6.out (by kernel_rfl) ?_
        refine hK.out _ _ ?_
        clear hK K
        refine done_ (done_of HT_.out (by kernel_rfl)) ?_
        clear HT_ HW_ hHeld hcut
        simp only [Act.put]
        have h9 := midM_next lastR rows q [] (by rw [HRL.out]; exact HLT.out)
        rw [HXS.out, show lastR xs = xs.drop k from by unfold lastR; rw [HKX.out]] at h9
        rw [h9] at HS7
        clear h9
        go_wp2_with fail
        go_roundw
        case rel => exact ⟨q + 1, _, by first | rfl | rw [e0.out], HLT.out, HS7⟩
        case measure => exact HME.out _ (by first | rfl | exact e0.out)
      · have h1 : decide ((q : Int) < (n : Int)) = false := decide_eq_false (by omega)
        have h2 : ¬ (q : Int) < (n : Int) := by omega
        have hqn : q = rows.length := by have := HRL.out; omega
        have h9 := HS.out
        rw [hqn, midM_stop, ← HROW.out, ← rowsD_flush D1 HP1.out] at h9
        have HF := Aside0.mk h9
        clear hq hlt hqn h9
        go_wp2
        go_ret
        unfold FlushPost
        rw [if_pos HE.out, HD1.out]
        refine ⟨rfl, rdr_put (A := A) (c := c) (n := n) (vs := vs) (flushD_ok HP1.out) (by unfold flushD; dsimp only; rw [List.length_map, List.length_range]; exact HN.out) ?_⟩
        exact St.cons_swap (St.swap HF.out)
  · have HE := Aside0.mk (show stepE D = 4 from by unfold stepE at hE ⊢; split <;> simp_all)
    clear hE
    go_enter Try.func25, Try.ntmps25
    go_wp2_with fail
    refine (ref_step.st HH.out HST.out).mono ?_
    rintro e w1 ⟨rfl, hs1⟩
    have HS1 := Aside0.mk hs1
    clear hs1
    rw [HE.out]
    go_wp2_with fail
    go_ret
    unfold FlushPost
    rw [if_neg (by rw [HE.out]; decide)]
    exact ⟨rfl, HS1.out⟩
theorem cnt_take (ts : List (List (List Int))) (q : Nat) (hq : q < ts.length) : cntT (ts.take (q + 1)) = cntT (ts.take q) + (if ts.getD q [] = [] then 0 else 1) := by
  unfold cntT
  rw [List.take_add_one, List.getElem?_eq_getElem hq, List.countP_append, List.getD_eq_getElem?_getD, List.getElem?_eq_getElem hq]
  simp only [Option.toList_some, Option.getD_some]
  cases h : ts[q] <;> simp
theorem cnt_le (ts : List (List (List Int))) : cntT ts ≤ ts.length := List.countP_le_length
set_option maxHeartbeats 4000000 in
theorem ref_Cached.st (h : St w0 w (rdr g D :: ps)) (hst : D.steps < 1000000) :
    Calls Try.prog 31 #[.pointer (some ⟨g, 0, none⟩)] w fun e w' => e = .returned (.int .i64 (cntT D.ts)) ∧ w = w' := by
  obtain ⟨hp, ⟨A, c, vs⟩, hs⟩ := rdr_out h
  have k0 := (rdr_cells hs).1
  have HP := Aside0.mk hp
  have HS := Aside0.mk hs
  have HST := Aside0.mk hst
  obtain ⟨n, hn⟩ : ∃ n, D.hs.length = n := ⟨_, rfl⟩
  have HN := Aside0.mk hn
  dsimp only at k0
  rw [hn] at k0
  clear h hs hp hst hn
  go_enter Try.func31, Try.ntmps31
  go_wp2_with fail
  go_loop [3, 4] (fun mx ix => ∃ q : Nat, mx = .int .i64 (cntT (D.ts.take q) : Nat) ∧ ix = .int .i64 (q : Int) ∧ q ≤ n) (fun _ ix => n - (intOf ix).toNat)
  case atStart => exact ⟨0, rfl, rfl, Nat.zero_le _⟩
  case round =>
    obtain ⟨q, rfl, rfl, hq⟩ := hrel
    by_cases hlt : q < n
    · have h1 : decide ((q : Int) < (n : Int)) = true := decide_eq_true (by omega)
      have h2 : (q : Int) < (n : Int) := by omega
      have HLT := Aside0.mk hlt
      have e0 := Aside0.mk (incM q (by have := HP.out.2.1; have := HN.out; omega))
      have HME := Aside0.mk (measM n q hlt)
      obtain ⟨ts, hs2⟩ := rdr_open HP.out HS.out q (by rw [HN.out]; exact hlt)
      obtain ⟨q1, q2, ad2, q3, _⟩ := grp_at hs2 0 (by simp)
      obtain ⟨gL, hA, c0, _⟩ := (hs2.front 4).row_at q (by rw [HN.out]; exact hlt) triN
      dsimp only at hA q1 q3 c0
      subst hA
      obtain ⟨v, hv⟩ : ∃ v, vs.getD q triN = v := ⟨_, rfl⟩
      rw [hv] at q1 q3 c0
      obtain ⟨A2, n2, c2⟩ := v
      dsimp only at q1 q3
      replace c0 : w.cell? ⟨gL, q, none⟩ = some (.slice A2 n2 c2) := c0
      have hct := cnt_take D.ts q (by have := HP.out.1; have := HN.out; omega)
      have hcl : cntT (D.ts.take q) ≤ 5000 := by
        have h9 := cnt_le (D.ts.take q)
        rw [List.length_take] at h9
        have := HP.out.1
        have := HP.out.2.1
        omega
      obtain ⟨m, hm⟩ : ∃ m, cntT (D.ts.take q) = m := ⟨_, rfl⟩
      rw [hm] at hct hcl ⊢
      have e3 := Aside0.mk (incM m (by omega))
      rw [List.length_cons] at q1
      by_cases ht : D.ts.getD q [] = []
      · rw [if_pos ht] at hct
        rw [ht, List.length_nil] at q1
        have h3 : decide ((n2 : Int) > 1) = false := decide_eq_false (by omega)
        have h3p : ¬ (1 : Int) < (n2 : Int) := by omega
        have HCT := Aside0.mk hct
        clear hct hcl hm ht q1 q2 q3 hs2 hv hlt hq
        go_wp2_with fail
        go_round
        case rel => exact ⟨q + 1, by rw [HCT.out]; rfl, by first | rfl | rw [e0.out], HLT.out⟩
        case measure => exact HME.out _ (by first | rfl | exact e0.out)
      · rw [if_neg ht] at hct
        have hpos : 0 < (D.ts.getD q []).length := List.length_pos_iff.2 ht
        have h3 : decide ((n2 : Int) > 1) = true := decide_eq_true (by omega)
        have h3p : (1 : Int) < (n2 : Int) := by omega
        have HCT := Aside0.mk hct
        clear hct hcl hm ht q1 q2 q3 hs2 hv hlt hq hpos
        go_wp2_with fail
        go_round
        case rel => exact ⟨q + 1, by rw [HCT.out]; first | rfl | rw [e3.out], by first | rfl | rw [e0.out], HLT.out⟩
        case measure => exact HME.out _ (by first | rfl | exact e0.out)
    · have h1 : decide ((q : Int) < (n : Int)) = false := decide_eq_false (by omega)
      have h2 : ¬ (q : Int) < (n : Int) := by omega
      have HQ := Aside0.mk (show D.ts.take q = D.ts from List.take_of_length_le (by have := HP.out.1; have := HN.out; omega))
      clear hlt hq
      go_wp2
      go_ret
      exact ⟨by rw [HQ.out]; rfl, rfl⟩
end
end Go.Proofs.Ytoloibjdiojmlaa.P
