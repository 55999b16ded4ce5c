/- Flush. -/
import Derived.Test.YtoloibjdiojmlaaDrv3
namespace Go.Proofs.Ytoloibjdiojmlaa.P
open Go.RowKit Go.Proofs.YtoloibjdiojmlaaW.PrintWords Go.Proofs.YtoloibjdiojmlaaW.PrintLast Go.Proofs.YtoloibjdiojmlaaW.PrintMore Go.Proofs.Ytoloibjdiojmlaa.Sep
set_option linter.unusedVariables false
set_option linter.unusedSimpArgs false
attribute [local go_sem] max2_int min2_int max_two min_two max_three min_three max_four min_four
theorem step_store_mid {P : Program} {ops : Array Oper} {op : Oper} {a : Act} {w : World} {K : Act → World → Prop} {Q : Exit → Act → World → Prop} {E : Prop} (hw : Region.wanted op (yielded ops a.tmps) = true) (ty : TypeId) (x y : Operand) (ho : op.op = .store ty x y)
    (b o : Nat) (cells : Array Value) (hx : a.eval x = .pointer (some ⟨b, o, none⟩)) (hy : a.eval y = .agg cells)
    (ht : w.there b o cells.size) (hi : (P.info? ty).map (·.size) = some cells.size) (h1 : cells.all (·.oneCell') = true)
    (h : K (a.put op.dst undef) (w.setCells b o cells.toList)) : if Region.wanted op (yielded ops a.tmps) = true then op.wp P a w K Q else E := by
  rw [if_pos hw]
  exact wp_store_mid ty x y ho b o cells hx hy ht hi h1 h
def FlushMid (D : DV) (ks : List Int) (hs : List (List Int)) : Prop := hs.length = D.hs.length ∧ ∀ i, i < D.hs.length → hs.getD i [] = if (i : Int) ∈ ks then lastS D i else D.hs.getD i []
theorem FlushMid.start (D : DV) : FlushMid D [] D.hs := ⟨rfl, fun i _ => by rw [if_neg (by simp)]⟩
theorem FlushMid.next {D : DV} {ks : List Int} {hs : List (List Int)} (h : FlushMid D ks hs) {k : Nat} (hk : k < D.hs.length) : FlushMid D ((k : Int) :: ks) (hs.set k (lastS D k)) := by
  refine ⟨by rw [List.length_set]; exact h.1, fun i hi => ?_⟩
  rw [List.getD_eq_getElem?_getD]
  by_cases hik : i = k
  · subst hik
    rw [List.getElem?_set_self (by rw [h.1]; exact hi), if_pos (by simp)]
    rfl
  · rw [List.getElem?_set_ne (fun q => hik q.symm), ← List.getD_eq_getElem?_getD, h.2 i hi]
    have : ((i : Int) ∈ (k : Int) :: ks) ↔ ((i : Int) ∈ ks) := by
      rw [List.mem_cons]
      exact ⟨fun q => q.elim (fun q => absurd (by omega) hik) id, Or.inr⟩
    by_cases q : (i : Int) ∈ ks
    · rw [if_pos q, if_pos (this.2 q)]
    · rw [if_neg q, if_neg (fun q' => q (this.1 q'))]
theorem FlushMid.stop {D : DV} {ks : List Int} {hs : List (List Int)} (h : FlushMid D ks hs) (hall : ∀ k, look D.ts k ≠ [] → k ∈ ks) : hs = (flushD D).hs := by
  unfold flushD
  dsimp only
  apply List.ext_getElem?
  intro i
  by_cases hi : i < D.hs.length
  · have h1 := h.2 i hi
    rw [List.getD_eq_getElem?_getD, List.getElem?_eq_getElem (by rw [h.1]; exact hi)] at h1
    rw [List.getElem?_eq_getElem (by rw [h.1]; exact hi), List.getElem?_map, List.getElem?_range hi]
    simp only [Option.getD_some, Option.map_some] at h1 ⊢
    rw [h1]
    split
    · rfl
    · next q =>
      have : look D.ts i = [] := by
        by_cases q2 : look D.ts i = []
        · exact q2
        · exact absurd (hall i q2) q
      rw [look_nat, List.getD_eq_getElem?_getD] at this
      unfold lastS
      simp [this]
  · rw [List.getElem?_eq_none (by rw [h.1]; omega), List.getElem?_eq_none (by simp; omega)]
theorem look_in {ts : List (List (List Int))} {k : Int} (h : look ts k ≠ []) : ∃ i : Nat, k = i ∧ i < ts.length := by
  unfold look at h
  by_cases h0 : 0 ≤ k
  · rw [if_pos h0] at h
    refine ⟨k.toNat, by omega, ?_⟩
    by_cases hk : k.toNat < ts.length
    · exact hk
    · rw [List.getD_eq_getElem?_getD, List.getElem?_eq_none (by omega)] at h
      exact absurd rfl h
  · rw [if_neg h0] at h
    exact absurd rfl h
theorem look_nil (ts : List (List (List Int))) (k : Int) : look (ts.map (fun _ => ([] : List (List Int)))) k = [] := by
  rw [List.map_const']
  exact look_none _ k
theorem cnt_nil (ts : List (List (List Int))) : cntT (ts.map (fun _ => ([] : List (List Int)))) = 0 := by
  rw [List.map_const']
  exact cnt_none _
theorem flushD_ok {D : DV} (h : DOk D) : DOk (flushD D) := by
  obtain ⟨h1, h2, h3, h4⟩ := h
  refine ⟨by unfold flushD; simp [h1], by unfold flushD; simpa using h2, h3, fun t ht => ?_⟩
  unfold flushD at ht
  simp only [List.mem_map] at ht
  obtain ⟨_, _, rfl⟩ := ht
  exact Nat.zero_le _
section
variable {w0 w : World} {ps : List HP} {g : Nat} {D : DV}
def FlushPost (w0 : World) (ps : List HP) (C : DV → HP) (D : DV) (e : Ending) (w' : World) : Prop :=
  if stepE D = 0 then e = .returned (.int .i64 0) ∧ St w0 w' (C (flushD (stepD D)) :: ps) else e = .returned (.int .i64 4) ∧ St w0 w' (C (stepD D) :: ps)
def fl_T : Bool × List (List Nat × List Nat) := (true, [([], []), ([0], [0]), ([1], [1]), ([2], [2]), ([], []), ([], []), ([], []), ([6], [6]), ([7], [7]), ([5, 8], [5, 8]), ([9], [9]), ([3, 4, 0, 1, 2, 3, 4, 5, 6, 7, 8, 9, 10], [3, 4]), ([11, 10, 0, 1, 2, 3, 4, 5, 6, 7, 8, 9, 10], [10, 11])])
def fl_B : List Nat := [0, 1, 3, 7, 0, 0, 0, 64, 192, 480, 992, 2047, 4095]
theorem fl_tab : rtab .any (opsOf Try.f14 7) = fl_T := by kernel_rfl
theorem fl_bits : waitsOk fl_T.2 fl_B = true := by kernel_rfl
set_option maxHeartbeats 4000000 in
set_option maxRecDepth 100000 in
theorem drive_Flush.st (h : St w0 w (drv g D :: ps)) (hst : D.steps < 1000000) :
    Calls Try.prog 14 #[.pointer (some ⟨g, 0, none⟩)] w fun e w' => FlushPost w0 ps (drv g) D e w' := by
  have HH := Aside0.mk h
  have HST := Aside0.mk hst
  have HP := Aside0.mk (stepD_ok (drv_out h).1)
  clear h hst
  by_cases hE : stepE D = 0
  · have HE := Aside0.mk hE
    clear hE
    go_enter Try.func14, Try.ntmps14
    go_wp2_with fail
    refine (drive_step.st HH.out HST.out).mono ?_
    rintro e w1 ⟨rfl, hs1⟩
    rw [HE.out]
    obtain ⟨_, ⟨A, c, b, m⟩, hs1⟩ := drv_out hs1
    obtain ⟨D1, hD1⟩ : ∃ D1, stepD D = D1 := ⟨_, rfl⟩
    rw [hD1] at hs1 HP
    have HD1 := Aside0.mk hD1
    clear hD1
    have HTH := Aside0.mk HP.out.1
    obtain ⟨hs, ts, off, fuse, steps⟩ := D1
    unfold drvM at hs1
    dsimp only at hs1 HTH
    obtain ⟨hl, hhl⟩ : ∃ hl, hs.length = hl := ⟨_, rfl⟩
    obtain ⟨nn, hnn⟩ : ∃ nn, cntT ts = nn := ⟨_, rfl⟩
    rw [hhl, hnn] at hs1
    rw [hhl] at HTH
    have HHL := Aside0.mk hhl
    have HNN := Aside0.mk hnn
    have HS1 := Aside0.mk (show St w0 w1 (mpo b nn 66 m (look ts) none none :: blk g (dCells A hl c b off fuse steps) 63 :: row kSec 66 (.slice A hl c) hs :: ps) from hs1.front 2)
    obtain ⟨k0, k1, k2, k3, k4⟩ := drv_cells hs1
    clear hs1 hhl hnn k0 k2 k3 k4
    go_wp2_with ((with_reducible refine gate_dst (N := 15) rfl ?_); refine wpList_range_at rfl (.tmp 14) rfl rfl (St.map_at HS1.out) Try.underlying61 ?_; intro ob hG)
    have HG := Aside0.mk (St.map_begin HS1.out hG)
    clear hG
    obtain ⟨r, hr⟩ : ∃ r, w1.heap.size = r := ⟨_, rfl⟩
    rw [hr] at HG
    simp only [hr, Act.put, List.setIfInBounds_toArray, List.set_cons_zero, List.set_cons_succ]
    go_loopw [4, 5] (fun _ _ wr => ∃ (ks : List Int) (hs' : List (List Int)), Aside0 (FlushMid ⟨hs, ts, off, fuse, steps⟩ ks hs') ∧ Aside0 (St w0 wr (mpo b nn 66 m (look ts) none (some (r, ks)) :: blk g (dCells A hl c b off fuse steps) 63 :: row kSec 66 (.slice A hl c) hs' :: ps))) (fun _ _ wr => nn - iterLen wr r)
    case atStart => exact ⟨[], hs, ⟨FlushMid.start _⟩, HG⟩
    case round =>
      clear HG
      obtain ⟨ks, hs', HF, HS⟩ := hrel
      go_wp2_with ((with_reducible refine gate_dst (N := 16) rfl ?_); refine wpList_next_at rfl (.tmp 15) rfl rfl (St.map_going HS.out) ?_ ?_)
      · intro hall
        have HALL := Aside0.mk (show ∀ k, look ts k ≠ [] → k ∈ ks from fun k hk => by
          have := (St.map_isSome HS.out k).2 hk
          obtain ⟨v, hv⟩ := Option.isSome_iff_exists.1 this
          exact hall k v hv)
        have HS0 := Aside0.mk (St.map_stop HS.out)
        have k1 := (drv_cells (HS.out.front 1)).2.1
        clear hall
        go_wp2_with ((with_reducible refine gate_builtin (b := .clear) (xs := #[.tmp 36]) rfl ?_); refine wpList_clear_at rfl (.tmp 36) rfl rfl (St.map_at HS0.out) Try.underlying61 ?_; intro ob2 hM; have HS1 := Aside0.mk (St.map_turn (x' := none) (c' := look (ts.map (fun _ => ([] : List (List Int))))) HS0.out hM (fun k _ => Or.inr ⟨rfl, look_nil ts k⟩)); clear hM)
        go_ret
        unfold FlushPost
        rw [if_pos HE.out, HD1.out]
        refine ⟨rfl, drv_in (flushD_ok HP.out) (p := ⟨A, c, b, fun _ => none⟩) ?_⟩
        show St w0 _ ([blk g (dCells A (flushD ⟨hs, ts, off, fuse, steps⟩).hs.length c b off fuse steps) _, row kSec _ (.slice A (flushD ⟨hs, ts, off, fuse, steps⟩).hs.length c) (flushD ⟨hs, ts, off, fuse, steps⟩).hs, mpo b (cntT (ts.map (fun _ => ([] : List (List Int))))) _ _ (look (ts.map (fun _ => ([] : List (List Int))))) none none] ++ _)
        rw [← HF.out.stop HALL.out, HF.out.1, cnt_nil]
        rw [show (⟨hs, ts, off, fuse, steps⟩ : DV).hs.length = hl from HHL.out]
        exact St.back 2 HS1.out
      · intro k v ob w2 hmk hnk hlt hw hen hG
        have HS2 := Aside0.mk (St.map_next HS.out hw hG)
        have HME := Aside0.mk (show nn - (k :: ks).length < nn - iterLen wr r from by
          rw [(St.map_going HS.out).iterLen, List.length_cons]
          omega)
        have hck := (St.map_isSome HS.out k).1 (by rw [hmk]; rfl)
        clear hw hG HS hnk hlt
        obtain ⟨wn, hwn⟩ : ∃ wn, Go.ChangeMaps.setBlock w2 r ob = wn := ⟨_, rfl⟩
        rw [hwn] at hen HS2 ⊢
        clear hwn w2
        obtain ⟨i, rfl, hi⟩ := look_in hck
        rw [HTH.out] at hi
        obtain ⟨v', hv, hd, hs3⟩ := St.map_take HS2.out.drew (i : Int)
        rw [hmk] at hv
        obtain rfl : v = v' := hv
        obtain ⟨A2, c2, hv2⟩ := (hs3.front 1).row_slice
        subst hv2
        obtain ⟨t, ht⟩ : ∃ t, look ts (i : Int) = t := ⟨_, rfl⟩
        rw [ht] at hd hs3 hck hen hmk
        have HT := Aside0.mk ht
        obtain ⟨n2, hn2⟩ : ∃ n2, t.length = n2 := ⟨_, rfl⟩
        have hb2 : t.length ≤ 9223372036854775807 := ((hs3.front 1).row_C).2.2.2.1
        rw [hn2] at hd hs3 hen hmk hb2
        obtain ⟨k2, hk2⟩ : ∃ k2, k2 + 1 = n2 := ⟨n2 - 1, by
          have : 0 < t.length := List.length_pos_iff.2 hck
          omega⟩
        obtain ⟨g2, hA2, hr2, _, hx1, _⟩ := St.row_sec (hs3.front 1) k2 (by omega)
        subst hA2
        obtain ⟨x1, hxe⟩ : ∃ x1, t.getD k2 [] = x1 := ⟨_, rfl⟩
        rw [hxe] at hr2 hx1
        have HX1 := Aside0.mk hx1
        have HL1 := Aside0.mk (show lastS ⟨hs, ts, off, fuse, steps⟩ i = x1 from by
          unfold lastS
          have h1 : ts.getD i [] = t := by rw [← look_nat]; exact ht
          simp only [h1]
          rw [List.getLast_cons hck, List.getLast_eq_getElem, ← hxe, List.getD_eq_getElem?_getD, List.getElem?_eq_getElem (by omega)]
          simp only [Option.getD_some]
          congr 1
          omega)
        obtain ⟨gA, hA, _, hth, _, hset⟩ := St.row_sec (hs3.front 3) i hi
        subst hA
        have HTHR := Aside0.mk hth
        have HSET := Aside0.mk (hset x1 hx1)
        have HRG := Aside0.mk hr2
        have HK0 := Aside0.mk (drv_cells (hs3.front 2)).1
        have HF2 := Aside0.mk (HF.out.next (k := i) (by have := HHL.out; show i < hs.length; omega))
        rw [HL1.out] at HF2
        have HI := Aside0.mk hi
        have HD := Aside0.mk hd
        have e1 : wrap64 ((n2 : Int) - 1) = (k2 : Int) := by unfold wrap64; omega
        have h8 : k2 < n2 := by omega
        have h5 : (i : Int) < (hl : Int) := by omega
        have h5b : i < hl := hi
        clear hd hs3 hck hmk ht hn2 hb2 hk2 hr2 hx1 hxe hth hset hi
        go_upto_region 7 with fail
        clear hen
        refine stepStartD (fun w' => w'.cell? ⟨g, 0, none⟩ = some (.slice (some ⟨gA, 0, none⟩) hl c) ∧ w'.rangeAt g2 (k2 * 256) (encB x1)) 13 [0, 1, 2, 3, 4, 5, 6, 7, 8, 9, 10, 11, 12] [12] fl_tab fl_bits (by kernel_rfl) rfl ⟨HK0.out, HRG.out⟩ (fun HT_ HW_ hHeld => ?_)
        iterate 3 (refine stepPu (v := ?_) rfl rfl (any_of HT_.out (by kernel_rfl)) (fun _ _ _ h => h) (Or.inl ⟨by rfl, ?_⟩) (a' := ?_) ?_ ?_; rotate_left; (· intro w'; go_simp; with_reducible rfl); rotate_left; (· (simp only [Act.put, List.setIfInBounds_toArray, List.set_cons_zero, List.set_cons_succ, i64_w, i32_w]; rfl)))
        (refine stepLd (v := ?_) rfl rfl (take_ofW HT_.out HW_.out (by kernel_rfl)) (fun _ _ _ h => h) (Or.inl ⟨by rfl, ?_⟩) hHeld (a' := ?_) ?_ ?_; rotate_left; (· rintro w' ⟨s0, -⟩; go_simp; with_reducible rfl); rotate_left; (· (simp only [Act.put, List.setIfInBounds_toArray, List.set_cons_zero, List.set_cons_succ, i64_w, i32_w]; rfl)))
        iterate 6 (refine stepPu (v := ?_) rfl rfl (any_of HT_.out (by kernel_rfl)) (fun _ _ _ h => h) (Or.inl ⟨by rfl, ?_⟩) (a' := ?_) ?_ ?_; rotate_left; (· intro w'; go_simp; with_reducible rfl); rotate_left; (· (simp only [Act.put, List.setIfInBounds_toArray, List.set_cons_zero, List.set_cons_succ, i64_w, i32_w]; rfl)))
        refine stepLd rfl rfl (take_ofW HT_.out HW_.out (by kernel_rfl)) (fun _ _ _ h => h) (yieldsIf_load_mid (by rfl) 66 (.tmp 30) rfl g2 (k2 * 256) rfl (encB x1) _ (fun w' hS => hS.2) Try.underlying66 rfl (by rw [encB_len, HX1.out.1]; kernel_rfl)) hHeld (a' := ?_) ?_ ?_
        rotate_left
        · simp only [Act.put, List.setIfInBounds_toArray, List.set_cons_zero, List.set_cons_succ, i64_w, i32_w]; rfl
        (refine stepPu (v := ?_) rfl rfl (any_of HT_.out (by kernel_rfl)) (fun _ _ _ h => h) (Or.inl ⟨by rfl, ?_⟩) (a' := ?_) ?_ ?_; rotate_left; (· intro w'; go_simp; with_reducible rfl); rotate_left; (· (simp only [Act.put, List.setIfInBounds_toArray, List.set_cons_zero, List.set_cons_succ, i64_w, i32_w]; rfl)))
        refine stepLast rfl rfl (one_of HT_.out (by kernel_rfl)) (by decide) (fun K hK => ?_)
        refine step_store_mid (by rfl) 66 (.tmp 32) (.tmp 31) rfl gA (i * 256) (encB x1).toArray rfl rfl (by rw [List.size_toArray, encB_len, HX1.out.1]; exact HTHR.out) (by rw [List.size_toArray, encB_len, HX1.out.1]; kernel_rfl) (all_oneCell_toArray encB_one) ?_
        refine hK.out _ _ ?_
        clear hK K
        refine done_ (done_of HT_.out (by kernel_rfl)) ?_
        have HFIN := Aside0.mk (St.swap (St.front 2 (St.map_put (c' := look ts) (St.back 2 HSET.out) HD.out (fun k => by
          split
          · next q => rw [q, HT.out]
          · rfl))))
        clear HT_ HW_ hHeld
        simp only [Act.put]
        go_wp2_with fail
        go_roundw
        case rel => exact ⟨(i : Int) :: ks, hs'.set i x1, HF2, HFIN⟩
        case measure =>
          have h1 := (St.map_going HFIN.out).iterLen
          show nn - iterLen (wn.drew.setCells gA (i * 256) (encB x1)) r < _
          rw [h1]
          exact HME.out
  · have HE := Aside0.mk (show stepE D = 4 from by unfold stepE at hE ⊢; split <;> simp_all)
    clear hE
    go_enter Try.func14, Try.ntmps14
    go_wp2_with fail
    refine (drive_step.st HH.out HST.out).mono ?_
    rintro e w1 ⟨rfl, hs1⟩
    have HS1 := Aside0.mk hs1
    clear hs1
    rw [HE.out]
    go_wp2_with fail
    go_ret
    unfold FlushPost
    rw [if_neg (by rw [HE.out]; decide)]
    exact ⟨rfl, HS1.out⟩
end
end Go.Proofs.Ytoloibjdiojmlaa.P
