/- A superblock is read: the program's function, walked. -/
import Derived.Test.YtjpebckmjlmkmaaSup9
namespace Go.Proofs.Ytjpebckmjlmkmaa.P
open Go.RowKit Go.Proofs.YtjpebckmjlmkmaaW.PrintWords Go.Proofs.YtjpebckmjlmkmaaW.PrintLast Go.Proofs.YtjpebckmjlmkmaaW.PrintMore Go.Proofs.Ytjpebckmjlmkmaa.NumLem Go.Proofs.Ytjpebckmjlmkmaa.SealLem Go.Proofs.Ytjpebckmjlmkmaa.Sep
set_option linter.unusedVariables false
set_option linter.unusedSimpArgs false
attribute [local go_sem] min2_int min_two
set_option maxHeartbeats 8000000 in
set_option maxRecDepth 100000 in
theorem super_Read.st {w0 w : World} {ps : List HP} {A : Option Addr} {n c : Nat} {l : List Int} (h : St w0 w ps) (hr : Kd.C (Kd.int .u8) w A n l) (hc : n ≤ c) (hn : n ≤ 1000) (hb : Bytes l) (slot : Int) :
    Calls Try.prog 11 #[.slice A n c, .int .i64 slot] w fun e w' => ReadPost w0 ps (readR l slot) e w' := by
  have HS := Aside0.mk (h.alloc_ Z35 28)
  have HR := Aside0.mk (Kd.C_below hr (below_alloc (Below.refl _ _) (.cells Z35 28)))
  have HC := Aside0.mk hc
  have HN := Aside0.mk hn
  have HB := Aside0.mk hb
  have HZ := Aside0.mk Z35_one
  clear h hr hc hn hb
  obtain ⟨R, hR⟩ : ∃ R, readR l slot = R := ⟨_, rfl⟩
  rw [hR]
  by_cases hq : openOk l ∧ kindOf l = 1 ∧ addrOf l = slot
  case neg =>
    have hk : checkR l slot = (0, 0, 0, 0, 0, [], 3) := by unfold checkR; rw [if_neg hq]
    obtain rfl : none = R := by rw [← hR]; unfold readR; rw [if_neg]; rintro ⟨⟨q1, q2, q3, _⟩, _⟩; exact hq ⟨q1, q2, q3⟩
    have HK := Aside0.mk hk
    clear hq hk hR
    go_enter Try.func11, Try.ntmps11
    go_wp2_with fail
    refine (Check_st HS.out HR.out HC.out HN.out HB.out slot HK.out).mono ?_
    rintro e w1 ⟨A1, n1, c1, rfl, hle, hs⟩
    have HX := Aside0.mk (((hs.alloc_ #[.int .i64 0, .int .i64 0, .int .i64 0, .int .i64 0, .int .i64 0] 49).alloc_ #[.slice A1 n1 c1] 22).drop.drop.drop)
    clear hs
    go_wp2_with (refine Own.wpList_store_row rfl 28 _ _ rfl w.heap.size rfl Z35 rfl 28 _ HX.out.blk_is (by kernel_rfl) rfl HZ.out ?_)
    exact bodyPost_ret (results_ct rfl _ _ w.heap.size 28 Z35 (0, 0) _ rfl (blk_row_set HX.out Z35).blk_is Try.underlying28 rfl (by kernel_rfl)) rfl ⟨rfl, (blk_row_set HX.out Z35).drop⟩
  have hk : checkR l slot = (1, slot, countOf l, levelOf l, genOf l, l.drop 20, 0) := by unfold checkR; rw [if_pos hq, hq.2.1, hq.2.2]
  have HK := Aside0.mk hk
  have HO := Aside0.mk hq
  clear hq hk
  by_cases hlv : levelOf l = 0
  case neg =>
    obtain rfl : none = R := by rw [← hR]; unfold readR; rw [if_neg]; rintro ⟨⟨_, _, _, q4, _⟩, _⟩; exact hlv q4
    have hlv1 : (levelOf l != 0) = true := by simpa using hlv
    clear hR hlv
    go_enter Try.func11, Try.ntmps11
    go_wp2_with fail
    refine (Check_st HS.out HR.out HC.out HN.out HB.out slot HK.out).mono ?_
    rintro e w1 ⟨A1, n1, c1, rfl, hle, hs⟩
    have HX := Aside0.mk (show St w0 _ (blk (w1.heap.size + 1) #[.slice A1 n1 c1] 22 :: blk w1.heap.size #[.int .i64 1, .int .i64 slot, .int .i64 (countOf l), .int .i64 (levelOf l), .int .i64 (genOf l)] 49 :: rdp A1 n1 (l.drop 20) :: blk w.heap.size Z35 28 :: ps) from by
      have := (hs.alloc_ #[.int .i64 1, .int .i64 slot, .int .i64 (countOf l), .int .i64 (levelOf l), .int .i64 (genOf l)] 49).alloc_ #[.slice A1 n1 c1] 22
      simpa using this)
    have HLE := Aside0.mk hle
    clear hs hle
    have HXF := Aside0.mk HX.out.drop.drop.drop
    go_wp2_with (refine Own.wpList_store_row rfl 28 _ _ rfl w.heap.size rfl Z35 rfl 28 _ HXF.out.blk_is (by kernel_rfl) rfl HZ.out ?_)
    exact bodyPost_ret (results_ct rfl _ _ w.heap.size 28 Z35 (0, 0) _ rfl (blk_row_set HXF.out Z35).blk_is Try.underlying28 rfl (by kernel_rfl)) rfl ⟨rfl, (blk_row_set HXF.out Z35).drop⟩
  by_cases hct : countOf l = 0
  case neg =>
    obtain rfl : none = R := by rw [← hR]; unfold readR; rw [if_neg]; rintro ⟨⟨_, _, _, _, q5, _⟩, _⟩; exact hct q5
    have hct1 : (countOf l != 0) = true := by simpa using hct
    have hlv1 : (levelOf l != 0) = false := by simpa using hlv
    clear hR hct hlv
    go_enter Try.func11, Try.ntmps11
    go_wp2_with fail
    refine (Check_st HS.out HR.out HC.out HN.out HB.out slot HK.out).mono ?_
    rintro e w1 ⟨A1, n1, c1, rfl, hle, hs⟩
    have HX := Aside0.mk (show St w0 _ (blk (w1.heap.size + 1) #[.slice A1 n1 c1] 22 :: blk w1.heap.size #[.int .i64 1, .int .i64 slot, .int .i64 (countOf l), .int .i64 (levelOf l), .int .i64 (genOf l)] 49 :: rdp A1 n1 (l.drop 20) :: blk w.heap.size Z35 28 :: ps) from by
      have := (hs.alloc_ #[.int .i64 1, .int .i64 slot, .int .i64 (countOf l), .int .i64 (levelOf l), .int .i64 (genOf l)] 49).alloc_ #[.slice A1 n1 c1] 22
      simpa using this)
    have HLE := Aside0.mk hle
    clear hs hle
    have HXF := Aside0.mk HX.out.drop.drop.drop
    go_wp2_with (refine Own.wpList_store_row rfl 28 _ _ rfl w.heap.size rfl Z35 rfl 28 _ HXF.out.blk_is (by kernel_rfl) rfl HZ.out ?_)
    exact bodyPost_ret (results_ct rfl _ _ w.heap.size 28 Z35 (0, 0) _ rfl (blk_row_set HXF.out Z35).blk_is Try.underlying28 rfl (by kernel_rfl)) rfl ⟨rfl, (blk_row_set HXF.out Z35).drop⟩
  have hct1 : (countOf l != 0) = false := by simpa using hct
  have hlv1 : (levelOf l != 0) = false := by simpa using hlv
  obtain ⟨bs, hbs⟩ : ∃ b, decide (0 ≤ slot ∧ slot ≤ 1) = b := ⟨_, rfl⟩
  cases bs with
  | false =>
    obtain rfl : none = R := by rw [← hR]; unfold readR; rw [if_neg]; rintro ⟨⟨_, _, _, _, _, q6⟩, _⟩; exact (of_decide_eq_false hbs) q6
    clear hR hct hlv
    go_enter Try.func11, Try.ntmps11
    go_wp2_with fail
    refine (Check_st HS.out HR.out HC.out HN.out HB.out slot HK.out).mono ?_
    rintro e w1 ⟨A1, n1, c1, rfl, hle, hs⟩
    have HX := Aside0.mk (show St w0 _ (blk (w1.heap.size + 1) #[.slice A1 n1 c1] 22 :: blk w1.heap.size #[.int .i64 1, .int .i64 slot, .int .i64 (countOf l), .int .i64 (levelOf l), .int .i64 (genOf l)] 49 :: rdp A1 n1 (l.drop 20) :: blk w.heap.size Z35 28 :: ps) from by
      have := (hs.alloc_ #[.int .i64 1, .int .i64 slot, .int .i64 (countOf l), .int .i64 (levelOf l), .int .i64 (genOf l)] 49).alloc_ #[.slice A1 n1 c1] 22
      simpa using this)
    have HLE := Aside0.mk hle
    clear hs hle
    go_wp2_with fail
    refine (within_same _ _ _ _).mono ?_
    rintro e w2 ⟨rfl, rfl⟩
    rw [hbs]
    have HXF := Aside0.mk HX.out.drop.drop.drop
    go_wp2_with (refine Own.wpList_store_row rfl 28 _ _ rfl w.heap.size rfl Z35 rfl 28 _ HXF.out.blk_is (by kernel_rfl) rfl HZ.out ?_)
    exact bodyPost_ret (results_ct rfl _ _ w.heap.size 28 Z35 (0, 0) _ rfl (blk_row_set HXF.out Z35).blk_is Try.underlying28 rfl (by kernel_rfl)) rfl ⟨rfl, (blk_row_set HXF.out Z35).drop⟩
  | true =>
  have HSL := Aside0.mk (show slotOk slot from of_decide_eq_true hbs)
  have HRR := Aside0.mk (show (if goodP (l.drop 20) = true ∧ mayR (supP (genOf l) (l.drop 20)) = true then some (supP (genOf l) (l.drop 20)) else none) = R from by
    rw [← hR]
    unfold readR
    by_cases q : goodP (l.drop 20) = true ∧ mayR (supP (genOf l) (l.drop 20)) = true
    · rw [if_pos q, if_pos ⟨⟨HO.out.1, HO.out.2.1, HO.out.2.2, hlv, hct, HSL.out⟩, q⟩]
    · rw [if_neg q, if_neg (fun q2 => q q2.2)])
  have HBY := Aside0.mk (show Bytes (l.drop 20) from HB.out.drop 20)
  have HLN := Aside0.mk (show (l.drop 20).length = 236 from by rw [List.length_drop, HO.out.1.1])
  clear hR hct hlv
  go_enter Try.func11, Try.ntmps11
  go_wp2_with fail
  refine (Check_st HS.out HR.out HC.out HN.out HB.out slot HK.out).mono ?_
  rintro e w1 ⟨A1, n1, c1, rfl, hle, hs⟩
  have HX := Aside0.mk (show St w0 _ (blk (w1.heap.size + 1) #[.slice A1 n1 c1] 22 :: blk w1.heap.size #[.int .i64 1, .int .i64 slot, .int .i64 (countOf l), .int .i64 (levelOf l), .int .i64 (genOf l)] 49 :: rdp A1 n1 (l.drop 20) :: blk w.heap.size Z35 28 :: ps) from by
    have := (hs.alloc_ #[.int .i64 1, .int .i64 slot, .int .i64 (countOf l), .int .i64 (levelOf l), .int .i64 (genOf l)] 49).alloc_ #[.slice A1 n1 c1] 22
    simpa using this)
  have HLE := Aside0.mk hle
  clear hs hle
  go_wp2_with fail
  refine (within_same _ _ _ _).mono ?_
  rintro e w2 ⟨rfl, rfl⟩
  rw [hbs]
  obtain ⟨l0, hl0⟩ : ∃ l0, l.drop 20 = l0 := ⟨_, rfl⟩
  rw [hl0] at HRR HBY HLN HX
  obtain ⟨gen, hgen⟩ : ∃ g, genOf l = g := ⟨_, rfl⟩
  rw [hgen] at HRR HX ⊢
  clear hl0 hgen hbs hct1 hlv1 HK HO HS HR HB
  have H236 := Aside0.mk (show n1 = 236 from by rw [← rd_len (HX.out.front 2), HLN.out])
  have k4 := blk_cell HX.out.swap.blk_is 4
  go_upto_region 6 with fail
  go_cut [11] (fun u wx => ∃ (sb n3 c3 : Nat) (A3 : Option Addr), u = .pointer (some ⟨sb, 0, none⟩) ∧ n3 ≤ c3 ∧ Aside0 (St w0 wx (blk (w1.heap.size + 1) #[.slice A3 n3 c3] 22 :: rdp A3 n3 (l0.drop 2) :: blk sb (SupS.cells ⟨gen, val (l0.take 2), 0, List.replicate 8 .zero⟩).toArray 28 :: blk w.heap.size Z35 28 :: ps)))
  case first =>
    refine wp_region_held_drew (S := fun w' => w'.cell? ⟨w1.heap.size, 4, none⟩ = some (.int .i64 gen)) (by kernel_rfl) ?_ (fun hHeld => ?_)
    · first | exact k4 | simp
    (refine wpAnyH_take (i := 0) (oi := _) (v := ?_) rfl (by kernel_rfl) (by kernel_rfl) (by kernel_rfl) (fun _ _ _ h => h) (Or.inl ⟨by rfl, ?_⟩) hHeld ?_; rotate_left; (· intro w' hSw; (try dsimp only at hSw); go_simp; (try with_reducible rfl)); (simp only [Act.put, List.setIfInBounds_toArray, List.set_cons_zero, List.set_cons_succ]))
    (refine wpAnyH_take (i := 1) (oi := _) (v := ?_) rfl (by kernel_rfl) (by kernel_rfl) (by kernel_rfl) (fun _ _ _ h => h) (Or.inl ⟨by rfl, ?_⟩) hHeld ?_; rotate_left; (· intro w' hSw; (try dsimp only at hSw); go_simp; (try with_reducible rfl)); (simp only [Act.put, List.setIfInBounds_toArray, List.set_cons_zero, List.set_cons_succ]))
    (refine wpAnyH_take (i := 2) (oi := _) (v := ?_) rfl (by kernel_rfl) (by kernel_rfl) (by kernel_rfl) (fun _ _ _ h => h) (Or.inl ⟨by rfl, ?_⟩) hHeld ?_; rotate_left; (· intro w' hSw; (try dsimp only at hSw); go_simp; (try with_reducible rfl)); (simp only [Act.put, List.setIfInBounds_toArray, List.set_cons_zero, List.set_cons_succ]))
    refine wpAnyH_ready (rs := [3, 5]) (by kernel_rfl) (by simp) ?_
    refine AllReadyH.cons (o := _) rfl (fun K hK => ?_) (AllReadyH.cons (o := _) rfl (fun K hK => ?_) AllReadyH.nil)
    · go_simp
      refine (super_next.st (HX.out.drew.front 2 |>.swap) HLE.out 2 (by decide) (by decide) (by rw [H236.out]; decide) (by rw [H236.out]; decide) HBY.out).mono ?_
      rintro e w3 ⟨A3, n3, c3, rfl, hc3, hs3⟩
      have HS3 := Aside0.mk hs3
      have HC3 := Aside0.mk hc3
      clear hs3 hc3
      go_wp2_with fail
      refine hK.out _ _ (blk_cell (HS3.out.front 2).blk_is 4) (fun hHeld => ?_)
      clear hK K
      try simp only [Act.put, List.setIfInBounds_toArray, List.set_cons_zero, List.set_cons_succ]
      (refine wpAnyH_take (i := 4) (oi := _) (v := ?_) rfl (by kernel_rfl) (by kernel_rfl) (by kernel_rfl) (fun _ _ _ h => h) (Or.inl ⟨by rfl, ?_⟩) hHeld ?_; rotate_left; (· intro w' hSw; (try dsimp only at hSw); go_simp; (try with_reducible rfl)))
      refine wpAnyH_norm (a' := ?_) ?_ ?_
      rotate_left
      · show Act.put _ (some 50) _ = _
        simp only [Act.put, List.setIfInBounds_toArray, List.set_cons_zero, List.set_cons_succ]
        rfl
      refine wpAnyH_ready (rs := [5]) (by kernel_rfl) (by simp) ?_
      refine AllReadyH.cons (o := _) rfl (fun K hK => ?_) AllReadyH.nil
      go_simp
      have HS4 := Aside0.mk (HS3.out.alloc_ Z35 28)
      refine hK.out _ _ (blk_cell (HS4.out.front 3).blk_is 4) (fun hHeld => ?_)
      clear hK K
      try simp only [Act.put, List.setIfInBounds_toArray, List.set_cons_zero, List.set_cons_succ]
      refine wpAnyH_ready (rs := [6]) (by kernel_rfl) (by simp) ?_
      refine AllReadyH.cons (o := _) rfl (fun K hK => ?_) AllReadyH.nil
      refine step_store_row rfl 28 (.tmp 11) (.tmp 50) rfl w3.heap.size rfl (SupS.cells ⟨gen, val (l0.take 2), 0, List.replicate 8 .zero⟩).toArray rfl 28 Z35 HS4.out.blk_is (by rw [List.size_toArray, cells_length _ rfl]; kernel_rfl) (by rw [List.size_toArray, cells_length _ rfl]; rfl) (fun v hv => cells_one _ v (by simpa using hv)) ?_
      have HS5 := Aside0.mk (blk_row_set HS4.out (SupS.cells ⟨gen, val (l0.take 2), 0, List.replicate 8 .zero⟩).toArray)
      refine hK.out _ _ (blk_cell (HS5.out.front 3).blk_is 4) (fun hHeld => ?_)
      clear hK K
      refine wpAnyH_norm (a' := ?_) ?_ ?_
      rotate_left
      · show Act.put _ none _ = _
        simp only [Act.put]
        rfl
      try simp only [Act.put, List.setIfInBounds_toArray, List.set_cons_zero, List.set_cons_succ]
      refine wpAnyH_done (by kernel_rfl) ?_ _
      go_wp2_with fail
      go_meet
      exact ⟨w3.heap.size, n3, c3, A3, rfl, HC3.out, ⟨(HS5.out.front 3).drop.front 2 |>.front 2⟩⟩
    · go_simp
      have HS4 := Aside0.mk ((HX.out.drew.front 2 |>.swap).alloc_ Z35 28)
      refine hK.out _ _ (blk_cell (HS4.out.front 3).blk_is 4) (fun hHeld => ?_)
      clear hK K
      try simp only [Act.put, List.setIfInBounds_toArray, List.set_cons_zero, List.set_cons_succ]
      refine wpAnyH_ready (rs := [3]) (by kernel_rfl) (by simp) ?_
      refine AllReadyH.cons (o := _) rfl (fun K hK => ?_) AllReadyH.nil
      go_simp
      refine (super_next.st (HS4.out.swap.front 2 |>.swap) HLE.out 2 (by decide) (by decide) (by rw [H236.out]; decide) (by rw [H236.out]; decide) HBY.out).mono ?_
      rintro e w3 ⟨A3, n3, c3, rfl, hc3, hs3⟩
      have HS3 := Aside0.mk hs3
      have HC3 := Aside0.mk hc3
      clear hs3 hc3
      go_wp2_with fail
      refine hK.out _ _ (blk_cell (HS3.out.front 3).blk_is 4) (fun hHeld => ?_)
      clear hK K
      try simp only [Act.put, List.setIfInBounds_toArray, List.set_cons_zero, List.set_cons_succ]
      (refine wpAnyH_take (i := 4) (oi := _) (v := ?_) rfl (by kernel_rfl) (by kernel_rfl) (by kernel_rfl) (fun _ _ _ h => h) (Or.inl ⟨by rfl, ?_⟩) hHeld ?_; rotate_left; (· intro w' hSw; (try dsimp only at hSw); go_simp; (try with_reducible rfl)))
      refine wpAnyH_norm (a' := ?_) ?_ ?_
      rotate_left
      · show Act.put _ (some 50) _ = _
        simp only [Act.put, List.setIfInBounds_toArray, List.set_cons_zero, List.set_cons_succ]
        rfl
      obtain ⟨SB, hSB⟩ : ∃ b, w1.heap.size + 1 + 1 = b := ⟨_, rfl⟩
      have HS6 := Aside0.mk (show St w0 w3 (blk SB Z35 28 :: _) from by have := HS3.out.front 2; rw [show (((w1.alloc (.cells #[.int .i64 1, .int .i64 slot, .int .i64 (countOf l), .int .i64 (levelOf l), .int .i64 gen] 49)).alloc (.cells #[.slice A1 n1 c1] 22)).drew).heap.size = SB from by rw [← hSB]; simp] at this; exact this)
      rw [hSB]
      clear hSB
      refine wpAnyH_ready (rs := [6]) (by kernel_rfl) (by simp) ?_
      refine AllReadyH.cons (o := _) rfl (fun K hK => ?_) AllReadyH.nil
      refine step_store_row rfl 28 (.tmp 11) (.tmp 50) rfl SB rfl (SupS.cells ⟨gen, val (l0.take 2), 0, List.replicate 8 .zero⟩).toArray rfl 28 Z35 HS6.out.blk_is (by rw [List.size_toArray, cells_length _ rfl]; kernel_rfl) (by rw [List.size_toArray, cells_length _ rfl]; rfl) (fun v hv => cells_one _ v (by simpa using hv)) ?_
      have HS5 := Aside0.mk (blk_row_set HS6.out (SupS.cells ⟨gen, val (l0.take 2), 0, List.replicate 8 .zero⟩).toArray)
      refine hK.out _ _ (blk_cell (HS5.out.front 3).blk_is 4) (fun hHeld => ?_)
      clear hK K
      refine wpAnyH_norm (a' := ?_) ?_ ?_
      rotate_left
      · show Act.put _ none _ = _
        simp only [Act.put]
        rfl
      try simp only [Act.put, List.setIfInBounds_toArray, List.set_cons_zero, List.set_cons_succ]
      refine wpAnyH_done (by kernel_rfl) ?_ _
      go_wp2_with fail
      go_meet
      exact ⟨SB, n3, c3, A3, rfl, HC3.out, ⟨(HS5.out.front 3).drop.front 2 |>.front 2⟩⟩
  case rest =>
  obtain ⟨sb, n3, c3, A3, rfl, hc3, HS⟩ := hcut
  have HC3 := Aside0.mk hc3
  have HN3 := Aside0.mk (show n3 = 234 from by rw [← rd_len HS.out.swap, List.length_drop, HLN.out])
  obtain ⟨BB, hBB⟩ : ∃ b, w1.heap.size + 1 = b := ⟨_, rfl⟩
  rw [hBB] at HS ⊢
  clear hc3 hBB HX k4 HLE H236
  have k0 := blk_cell HS.out.blk_is 0
  go_wp2_with fail
  refine (super_next.st HS.out HC3.out 2 (by decide) (by decide) (by rw [HN3.out]; decide) (by rw [HN3.out]; decide) (HBY.out.drop 2)).mono ?_
  rintro e w4 ⟨A4, n4, c4, rfl, hc4, hs4⟩
  have HSL4 := Aside0.mk (show St w0 _ (blk sb (SupS.cells ⟨gen, val (l0.take 2), val ((l0.drop 2).take 2), List.replicate 8 .zero⟩).toArray 28 :: blk BB #[.slice A4 n4 c4] 22 :: rdp A4 n4 ((l0.drop 2).drop 2) :: blk w.heap.size Z35 28 :: ps) from by
    have := (hs4.front 2).blk_set 2 (.int .i64 (val ((l0.drop 2).take 2)))
    rwa [cells_log] at this)
  have HC4 := Aside0.mk hc4
  have HN4 := Aside0.mk (show n4 = 232 from by rw [← rd_len hs4.swap, List.length_drop, List.length_drop, HLN.out])
  have f2 := blk_frozen (hs4.front 2).blk_is 2
  have e2 := blk_cell (hs4.front 2).blk_is 2
  have e2' := e2.trans (show (SupS.cells ⟨gen, val (l0.take 2), 0, List.replicate 8 .zero⟩).toArray[2]? = some (.int .i64 0) from rfl)
  clear hs4 hc4 k0 HS HC3 HN3 e2
  rw [List.drop_drop] at HSL4
  obtain ⟨sec, hsec⟩ : ∃ x, val (l0.take 2) = x := ⟨_, rfl⟩
  obtain ⟨lg, hlg⟩ : ∃ x, val ((l0.drop 2).take 2) = x := ⟨_, rfl⟩
  obtain ⟨l4, hl4⟩ : ∃ x, l0.drop (2 + 2) = x := ⟨_, rfl⟩
  have HSP := Aside0.mk (show supP gen l0 = ⟨gen, sec, lg, volsP l4 8⟩ from by unfold supP; rw [hsec, hlg, show l0.drop 4 = l4 from hl4])
  have HGP := Aside0.mk (show goodP l0 = volsGood l4 8 from by unfold goodP; rw [show l0.drop 4 = l4 from hl4])
  have HBL := Aside0.mk (show Bytes l4 from hl4 ▸ HBY.out.drop _)
  have HL4 := Aside0.mk (show l4.length = 232 from by rw [← hl4, List.length_drop, HLN.out])
  rw [hsec, hlg, hl4] at HSL4
  rw [hlg]
  clear hsec hlg hl4
  obtain ⟨VV, hVV⟩ : ∃ x, volsP l4 8 = x := ⟨_, rfl⟩
  obtain ⟨GG, hGG⟩ : ∃ x, volsGood l4 8 = x := ⟨_, rfl⟩
  rw [hVV] at HSP
  rw [hGG] at HGP
  have HVV := Aside0.mk hVV
  have HGG := Aside0.mk hGG
  clear hVV hGG
  go_upto_block 0 with fail
  go_cut [9] (fun gv wx => ∃ (G : Bool) (n c : Nat) (A : Option Addr) (l : List Int) (vs : List VolS), gv = .bool G ∧ n ≤ c ∧ Aside0 (St w0 wx (blk sb (SupS.cells ⟨gen, sec, lg, vs⟩).toArray 28 :: blk BB #[.slice A n c] 22 :: rdp A n l :: blk w.heap.size Z35 28 :: ps)) ∧ Aside0 (vs.length = 8 ∧ ∀ v ∈ vs, v.name.size ≤ 10) ∧ Aside0 (l.length ≤ 232) ∧ Aside0 (G = true → vs = VV) ∧ Aside0 ((G && decide (l = List.replicate l.length 0)) = GG))
  case first =>
    have HS0 := Aside0.mk (HSL4.out.front 2 |>.front 2)
    go_wp2_with fail
    clear HSL4
    go_loopw [9, 54] (fun gv iv wr => ∃ (j n c : Nat) (A : Option Addr) (l : List Int) (vs : List VolS) (G : Bool), iv = .int .i64 j ∧ gv = .bool G ∧ j ≤ 8 ∧ n ≤ c ∧ Aside0 (St w0 wr (blk BB #[.slice A n c] 22 :: rdp A n l :: blk sb (SupS.cells ⟨gen, sec, lg, vs⟩).toArray 28 :: blk w.heap.size Z35 28 :: ps)) ∧ Aside0 (l.length = 232 - 18 * j) ∧ Aside0 (Bytes l) ∧ Aside0 (vs.length = 8 ∧ ∀ v ∈ vs, v.name.size ≤ 10) ∧ Aside0 (G = true → ∃ pre : List VolS, pre.length = j ∧ vs = pre ++ List.replicate (8 - j) .zero ∧ pre ++ volsP l (8 - j) = VV) ∧ Aside0 ((G && volsGood l (8 - j)) = GG)) (fun _ iv _ => 8 - (intOf iv).toNat)
    case atStart => exact ⟨0, n4, c4, A4, l4, _, true, rfl, rfl, by omega, HC4.out, HS0, HL4, HBL, ⟨⟨rfl, by decide +kernel⟩⟩, ⟨fun _ => ⟨[], rfl, rfl, HVV.out⟩⟩, ⟨by rw [Bool.true_and]; exact HGG.out⟩⟩
    case round =>
      clear HS0 HL4 HBL HC4 HN4
      obtain ⟨j, n, c, A, l, vs, G, rfl, rfl, hj, hc, HS, HLL, HBB, HVS, HPR, HQ⟩ := hrel
      have HC := Aside0.mk hc
      have HN := Aside0.mk (show n = 232 - 18 * j from by rw [← rd_len HS.out.swap, HLL.out])
      clear hc
      by_cases hlt : j < 8
      · have l1 : decide ((j : Int) < 8) = true := decide_eq_true (by omega)
        have l2 : (j : Int) < 8 := by omega
        have HLT := Aside0.mk hlt
        have hq := HQ.out
        rw [show 8 - j = (8 - (j + 1)) + 1 from by omega] at hq
        have HQ2 := Aside0.mk (show (G && (volGood l && volsGood (l.drop 18) (8 - (j + 1)))) = GG from hq)
        obtain ⟨x1, hx1⟩ : ∃ x, val (l.take 1) = x := ⟨_, rfl⟩
        have HX1 := Aside0.mk hx1
        have hxr := val_range (l.take 1) (HBB.out.take 1)
        rw [hx1] at hxr
        have HXR := Aside0.mk hxr.1
        have HL1 := Aside0.mk (show (l.drop 1).length = 231 - 18 * j from by rw [List.length_drop, HLL.out]; omega)
        obtain ⟨lb, hlb⟩ : ∃ x, (l.drop 1).take 10 = x := ⟨_, rfl⟩
        have HLB := Aside0.mk hlb
        have HLBL := Aside0.mk (show lb.length = 10 from by rw [← hlb, List.length_take, HL1.out]; omega)
        have HVG := Aside0.mk (show volGood l = (decide (x1 ≤ 10) && (decide (lb.drop x1.toNat = List.replicate (10 - x1.toNat) 0) && decide (val ((l.drop 11).take 1) ≤ 1))) from by unfold volGood; rw [hx1, hlb])
        have k0 := blk_cell HS.out.blk_is 0
        clear hq hx1 hxr hlb hlt hj HQ
        by_cases hc1 : x1 ≤ 10
        · obtain ⟨m, rfl⟩ := Int.eq_ofNat_of_zero_le HXR.out
          have hc2 : (m : Int) < 11 := by omega
          have hc3 : decide ((m : Int) ≤ 10) = true := decide_eq_true hc1
          cases G with
          | false =>
            go_wp2_with fail
            refine (super_next.st HS.out HC.out 1 (by decide) (by decide) (by rw [HN.out]; have := HLT.out; omega) (by rw [HN.out]; omega) HBB.out).mono ?_
            rintro e w5 ⟨A5, n5, c5, rfl, hc5, hs5⟩
            rw [HX1.out]
            have HS5 := Aside0.mk (hs5.alloc_ (byC (List.replicate 10 0)) 57)
            have HC5 := Aside0.mk hc5
            have HN5 := Aside0.mk (show n5 = 231 - 18 * j from by rw [← rd_len hs5.swap, HL1.out])
            clear hs5 hc5 k0
            have k0 := blk_cell HS5.out.swap.blk_is 0
            go_wp2_with fail
            go_region_held3 (fun w' => w'.cell? ⟨BB, 0, none⟩ = some (.slice A5 n5 c5)) (first | exact k0 | go_keep)
              ((refine St.copy_bytes rfl (.tmp 60) (.tmp 61) 22 22 rfl 5 Try.underlying22 (by kernel_rfl) w5.heap.size 10 10 57 (by decide) rfl A5 n5 c5 rfl (by rw [HN5.out]; have := HLT.out; omega) (l.drop 1) (rd_C (HS5.out.drew.front 2)) (List.replicate 10 0) (by decide) HS5.out.drew ?_; intro w6 hs6; rw [HLB.out] at hs6; have HS6 := Aside0.mk hs6; clear k0; have k0 := blk_cell hs6.swap.blk_is 0; clear hs6))
            obtain ⟨A7, hsl7, hs7⟩ := rd_cut (HS6.out.front 2) HC5.out 10 (by rw [HN5.out]; have := HLT.out; omega)
            obtain ⟨n7, hn7⟩ : ∃ x, n5 - 10 = x := ⟨_, rfl⟩
            obtain ⟨c7, hc7⟩ : ∃ x, c5 - 10 = x := ⟨_, rfl⟩
            rw [hn7, hc7, show ((10 : Nat) : Int) = 10 from rfl] at hsl7
            rw [hn7, show (l.drop 1).drop 10 = l.drop 11 from by rw [List.drop_drop]] at hs7
            have HC7 := Aside0.mk (show n7 ≤ c7 from by have := HC5.out; omega)
            have HS7 := Aside0.mk ((hs7.front 2).blk_set 0 (.slice A7 n7 c7))
            have HN7 := Aside0.mk (show n7 = 221 - 18 * j from by rw [← hn7, HN5.out]; omega)
            have f0 := blk_frozen (hs7.front 2).blk_is 0
            clear hs7 hn7 hc7
            go_wp2_with fail
            go_meet
            exact ⟨false, n7, c7, A7, _, vs, rfl, HC7.out, ⟨(HS7.out.front 2).drop.front 2⟩, HVS, ⟨by rw [List.length_drop, HLL.out]; omega⟩, ⟨fun h => absurd h (by decide)⟩, ⟨by rw [← HQ2.out, Bool.false_and]; first | rfl | (rw [HVG.out, hc3]; rfl)⟩⟩
          | true =>
            go_wp2_with fail
            refine (super_next.st HS.out HC.out 1 (by decide) (by decide) (by rw [HN.out]; have := HLT.out; omega) (by rw [HN.out]; omega) HBB.out).mono ?_
            rintro e w5 ⟨A5, n5, c5, rfl, hc5, hs5⟩
            rw [HX1.out]
            have HS5 := Aside0.mk (hs5.alloc_ (byC (List.replicate 10 0)) 57)
            have HC5 := Aside0.mk hc5
            have HN5 := Aside0.mk (show n5 = 231 - 18 * j from by rw [← rd_len hs5.swap, HL1.out])
            clear hs5 hc5 k0
            have k0 := blk_cell HS5.out.swap.blk_is 0
            go_wp2_with fail
            go_region_held3 (fun w' => w'.cell? ⟨BB, 0, none⟩ = some (.slice A5 n5 c5)) (first | exact k0 | go_keep)
              ((refine St.copy_bytes rfl (.tmp 60) (.tmp 61) 22 22 rfl 5 Try.underlying22 (by kernel_rfl) w5.heap.size 10 10 57 (by decide) rfl A5 n5 c5 rfl (by rw [HN5.out]; have := HLT.out; omega) (l.drop 1) (rd_C (HS5.out.drew.front 2)) (List.replicate 10 0) (by decide) HS5.out.drew ?_; intro w6 hs6; rw [HLB.out] at hs6; have HS6 := Aside0.mk hs6; clear k0; have k0 := blk_cell hs6.swap.blk_is 0; clear hs6))
            obtain ⟨A7, hsl7, hs7⟩ := rd_cut (HS6.out.front 2) HC5.out 10 (by rw [HN5.out]; have := HLT.out; omega)
            obtain ⟨n7, hn7⟩ : ∃ x, n5 - 10 = x := ⟨_, rfl⟩
            obtain ⟨c7, hc7⟩ : ∃ x, c5 - 10 = x := ⟨_, rfl⟩
            rw [hn7, hc7, show ((10 : Nat) : Int) = 10 from rfl] at hsl7
            rw [hn7, show (l.drop 1).drop 10 = l.drop 11 from by rw [List.drop_drop]] at hs7
            have HC7 := Aside0.mk (show n7 ≤ c7 from by have := HC5.out; omega)
            have HS7 := Aside0.mk ((hs7.front 2).blk_set 0 (.slice A7 n7 c7))
            have HN7 := Aside0.mk (show n7 = 221 - 18 * j from by rw [← hn7, HN5.out]; omega)
            have f0 := blk_frozen (hs7.front 2).blk_is 0
            clear hs7 hn7 hc7
            have hm1 : (m : Int) ≤ 10 := hc1
            have HCL := Aside0.mk (show Kd.C (Kd.int .u8) (w6.setCell ⟨BB, 0, none⟩ (.slice A7 n7 c7)) (some ⟨w5.heap.size, 0, none⟩) 10 lb from by
              have := P.St.blk_row (HS7.out.front 2) (by rw [HLBL.out]; decide)
              rwa [HLBL.out] at this)
            have hcv := Kd.C_string (P := Try.prog) (c := 10) Try.underlying22 Try.underlying5 Try.underlying9 (show Kd.C (Kd.int .u8) (w6.setCell ⟨BB, 0, none⟩ (.slice A7 n7 c7)) (some ⟨w5.heap.size, 0, none⟩) m (lb.take m) from by
              have := Kd.C_take (m := m) (xs := lb) (by rw [HLBL.out]; exact HCL.out) (by rw [HLBL.out]; omega)
              rwa [List.length_take, HLBL.out, Nat.min_eq_left (by omega)] at this)
            go_wp2_with fail
            have hk5 : m ≤ 10 := by omega
            obtain ⟨nm, hnm⟩ : ∃ x, strOfNums (lb.take m) = x := ⟨_, rfl⟩
            rw [hnm]
            have HNM := Aside0.mk hnm
            have HNS := Aside0.mk (show nm.size = m from by rw [← hnm, strOfNums_size, List.length_take, HLBL.out]; omega)
            have HBN := Aside0.mk (show bytesOf nm = lb.take m from by rw [← hnm]; exact bytes_of _ (by rw [← HLB.out]; exact ((HBB.out.drop 1).take 10).take m))
            have HS9 := Aside0.mk (show St w0 _ (blk (w6.heap.size + 1) (byC (List.replicate 10 0)) 57 :: blk w6.heap.size #[.string nm, .bool false, .int .i64 0, .int .i64 0] 25 :: blk BB #[.slice A7 n7 c7] 22 :: rdp A7 n7 (l.drop 11) :: blk w5.heap.size (byC lb) 57 :: blk sb (SupS.cells ⟨gen, sec, lg, vs⟩).toArray 28 :: blk w.heap.size Z35 28 :: ps) from by
              have := (HS7.out.alloc_ #[.string nm, .bool false, .int .i64 0, .int .i64 0] 25).alloc_ (byC (List.replicate 10 0)) 57
              simpa using this)
            have k1 := blk_cell HS9.out.swap.blk_is 0
            have HCLW := HCL
            clear hcv hnm f0 k0 HCL hsl7
            go_region_held3 (fun w' => w'.cell? ⟨w6.heap.size, 0, none⟩ = some (.string nm)) (first | exact k1 | go_keep)
              ((refine St.copy_string rfl (.tmp 76) (.tmp 78) 22 9 rfl 5 Try.underlying22 (by kernel_rfl) (w6.heap.size + 1) 10 10 57 rfl nm rfl (by rw [HNS.out]; exact hk5) HS9.out.drew ?_; intro wa hsa; have HSA := Aside0.mk hsa; clear k1; have k1 := blk_cell hsa.swap.blk_is 0; clear hsa))
            have HSB := Aside0.mk ((HSA.out.front 3).front 3)
            have HBB8 := Aside0.mk (HBB.out.drop 11)
            clear k1
            have hlt8 := HLT.out
            obtain ⟨y1, hy1⟩ : ∃ x, val ((l.drop 11).take 1) = x := ⟨_, rfl⟩
            obtain ⟨y2, hy2⟩ : ∃ x, val ((l.drop 12).take 2) = x := ⟨_, rfl⟩
            obtain ⟨y3, hy3⟩ : ∃ x, val ((l.drop 14).take 4) = x := ⟨_, rfl⟩
            have HY1 := Aside0.mk hy1
            have HY2 := Aside0.mk hy2
            have HY3 := Aside0.mk hy3
            clear hy1 hy2 hy3
            go_wp2_with fail
            refine (super_next.st HSB.out HC7.out 1 (by decide) (by decide) (by rw [HN7.out]; omega) (by rw [HN7.out]; omega) HBB8.out).mono ?_
            rintro e wb ⟨A8, n8, c8, rfl, hc8, hs8⟩
            rw [List.drop_drop] at hs8
            rw [HY1.out]
            have HC8 := Aside0.mk hc8
            have HS8 := Aside0.mk ((hs8.front 3).blk_set 1 (.bool (y1 == 1)) |>.front 2 |>.front 2)
            have HN8 := Aside0.mk (show n8 = 220 - 18 * j from by rw [← rd_len hs8.swap, List.length_drop, HLL.out]; omega)
            have g1 := blk_frozen (hs8.front 3).blk_is 1
            have q1 := blk_cell (hs8.front 3).blk_is 1
            clear hs8 hc8
            go_wp2_with fail
            refine (super_next.st HS8.out HC8.out 2 (by decide) (by decide) (by rw [HN8.out]; omega) (by rw [HN8.out]; omega) (HBB.out.drop 12)).mono ?_
            rintro e wc ⟨A9, n9, c9, rfl, hc9, hs9⟩
            rw [List.drop_drop] at hs9
            rw [show val ((l.drop (11 + 1)).take 2) = y2 from HY2.out]
            clear g1 q1
            have HC9 := Aside0.mk hc9
            have HSD := Aside0.mk ((hs9.front 2).blk_set 2 (.int .i64 y2) |>.front 2 |>.front 2)
            have HN9 := Aside0.mk (show n9 = 218 - 18 * j from by rw [← rd_len hs9.swap, List.length_drop, HLL.out]; omega)
            have g2 := blk_frozen (hs9.front 2).blk_is 2
            have q2 := blk_cell (hs9.front 2).blk_is 2
            clear hs9 hc9
            go_wp2_with fail
            refine (super_next.st HSD.out HC9.out 4 (by decide) (by decide) (by rw [HN9.out]; omega) (by rw [HN9.out]; omega) (HBB.out.drop 14)).mono ?_
            rintro e wd ⟨Aa, na, ca, rfl, hca, hsa⟩
            rw [List.drop_drop] at hsa
            rw [show val ((l.drop (11 + 1 + 2)).take 4) = y3 from HY3.out]
            clear g2 q2
            have HCA := Aside0.mk hca
            have HSE := Aside0.mk (show St w0 _ (blk w6.heap.size #[.string nm, .bool (y1 == 1), .int .i64 y2, .int .i64 y3] 25 :: blk BB #[.slice Aa na ca] 22 :: rdp Aa na (l.drop 18) :: blk (w6.heap.size + 1) (byC (bytesOf nm ++ List.replicate (10 - nm.size) 0)) 57 :: blk w5.heap.size (byC lb) 57 :: blk sb (SupS.cells ⟨gen, sec, lg, vs⟩).toArray 28 :: blk w.heap.size Z35 28 :: ps) from (hsa.front 2).blk_set 3 (.int .i64 y3))
            have HNA := Aside0.mk (show na = 214 - 18 * j from by rw [← rd_len hsa.swap, List.length_drop, HLL.out]; omega)
            have g3 := blk_frozen (hsa.front 2).blk_is 3
            have q3 := blk_cell (hsa.front 2).blk_is 3
            clear hsa hca
            have hr1 := range_all (HSE.out.front 3).blk_is
            have hr2 := range_all (HSE.out.front 4).blk_is
            have hz1 : (byC (bytesOf nm ++ List.replicate (10 - nm.size) 0)).toList.length = 10 := by rw [Array.length_toList, byC_size, List.length_append, List.length_replicate, SuperLem.bytesOf_length, HNS.out]; omega
            have hz2 : (byC lb).toList.length = 10 := by rw [Array.length_toList, byC_size, HLBL.out]
            have heq := fun W => eql_label (bytesOf nm ++ List.replicate (10 - nm.size) 0) lb (by rw [← byC_size, ← Array.length_toList]; exact hz1) HLBL.out W
            obtain ⟨d1, hd1⟩ : ∃ d, (byC (bytesOf nm ++ List.replicate (10 - nm.size) 0)).toList = d := ⟨_, rfl⟩
            obtain ⟨d2, hd2⟩ : ∃ d, (byC lb).toList = d := ⟨_, rfl⟩
            rw [show byC (bytesOf nm ++ List.replicate (10 - nm.size) 0) = d1.toArray from by rw [← hd1, Array.toArray_toList], show byC lb = d2.toArray from by rw [← hd2, Array.toArray_toList]] at heq
            rw [hd1] at hr1 hz1
            rw [hd2] at hr2 hz2
            have HR1 := Aside0.mk hr1
            have HR2 := Aside0.mk hr2
            have HZ1 := Aside0.mk hz1
            have HZ2 := Aside0.mk hz2
            clear hr1 hr2 hz1 hz2 hd1 hd2
            obtain ⟨b1, hb1⟩ : ∃ b, decide (bytesOf nm ++ List.replicate (10 - nm.size) 0 = lb) = b := ⟨_, rfl⟩
            rw [hb1] at heq
            have HEQ := Aside0.mk heq
            clear heq
            obtain ⟨b2, hb2⟩ : ∃ b, decide (y1 ≤ 1) = b := ⟨_, rfl⟩
            have HG := Aside0.mk (show volGood l = (b1 && b2) from by
              rw [HVG.out, hc3, Bool.true_and, HY1.out, hb2, ← hb1]
              congr 1
              refine decide_eq_decide.2 ?_
              rw [HBN.out, HNS.out, Int.toNat_natCast]
              constructor
              · intro h
                rw [← h, List.take_append_drop]
              · intro h
                have h2 := List.take_append_drop m lb
                exact List.append_cancel_left (h2.trans h.symm))
            clear hb1
            have hvl := HVS.out.1
            have v0 := blk_cell HSE.out.blk_is 0
            have v1 := blk_cell HSE.out.blk_is 1
            have v2 := blk_cell HSE.out.blk_is 2
            have v3 := blk_cell HSE.out.blk_is 3
            have hszb : (SupS.cells ⟨gen, sec, lg, vs⟩).toArray.size = 35 := by rw [List.size_toArray, cells_length _ hvl]
            have HTH := Aside0.mk (there_of (HSE.out.front 5).blk_is (3 + j * 4) 4 (by rw [hszb]; omega))
            have HI4 := Aside0.mk (show (Try.prog.info? 25).map (·.size) = some 4 from by kernel_rfl)
            have HONE := Aside0.mk (show (#[Value.string nm, .bool (y1 == 1), .int .i64 y2, .int .i64 y3]).all (·.oneCell') = true from by simp [Value.oneCell'])
            have HVA := Aside0.mk (show volAt l = ⟨nm, y1 == 1, y2, y3⟩ from by
              unfold volAt
              rw [HX1.out, HY1.out, HY2.out, HY3.out, Int.toNat_natCast, ← HNM.out, ← HLB.out, List.take_take, Nat.min_eq_left hk5]
              rfl)
            have hsf := (blk_vol_cells (HSE.out.front 5) j (by rw [hvl]; exact hlt8) ⟨nm, y1 == 1, y2, y3⟩ |>.swap.drop.front 3 |>.drop.front 3 |>.drop.front 2 |>.front 2)
            obtain ⟨wX, hX⟩ : ∃ W, (wd.setCell ⟨w6.heap.size, 3, none⟩ (.int .i64 y3)).setCells sb (3 + j * 4) [.string nm, .bool (y1 == 1), .int .i64 y2, .int .i64 y3] = W := ⟨_, rfl⟩
            rw [hX] at hsf
            have HSF := Aside0.mk hsf
            have HWX := Aside0.mk hX
            clear hsf hX
            have HVS2 := Aside0.mk (show (vs.set j ⟨nm, y1 == 1, y2, y3⟩).length = 8 ∧ ∀ v ∈ vs.set j ⟨nm, y1 == 1, y2, y3⟩, v.name.size ≤ 10 from by
              refine ⟨by rw [List.length_set]; exact hvl, fun v hv => ?_⟩
              rcases List.mem_or_eq_of_mem_set hv with h | h
              · exact HVS.out.2 v h
              · rw [h]; show nm.size ≤ 10; rw [HNS.out]; exact hk5)
            have HLL2 := Aside0.mk (show (l.drop 18).length = 232 - 18 * (j + 1) from by rw [List.length_drop, HLL.out]; omega)
            have HPR2 := Aside0.mk (show ∃ pre : List VolS, pre.length = j + 1 ∧ vs.set j ⟨nm, y1 == 1, y2, y3⟩ = pre ++ List.replicate (8 - (j + 1)) .zero ∧ pre ++ volsP (l.drop 18) (8 - (j + 1)) = VV from by
              obtain ⟨pre, p1, p2, p3⟩ := HPR.out (by trivial)
              refine ⟨pre ++ [⟨nm, y1 == 1, y2, y3⟩], by rw [List.length_append, p1]; rfl, by rw [p2, pre_set hlt8 p1], ?_⟩
              rw [← p3, show 8 - j = (8 - (j + 1)) + 1 from by omega, volsP, HVA.out, List.append_assoc]
              rfl)
            have HQ3 := Aside0.mk (show ((b1 && b2) && volsGood (l.drop 18) (8 - (j + 1))) = GG from by rw [← HQ2.out, HG.out, Bool.true_and])
            have HB18 := Aside0.mk (HBB.out.drop 18)
            clear hvl hszb hlt8
            cases b1 with
            | false =>
              go_wp2_with (first | (refine wpList_load_mid rfl 57 _ rfl (w6.heap.size + 1) 0 rfl d1 _ HR1.out Try.underlying57 rfl (by rw [HZ1.out]; kernel_rfl) ?_) | (refine wpList_load_mid rfl 57 _ rfl w5.heap.size 0 rfl d2 _ HR2.out Try.underlying57 rfl (by rw [HZ2.out]; kernel_rfl) ?_) | ((with_reducible refine gate_dst (N := 93) rfl ?_); refine wpList_eql rfl 57 57 (.tmp 91) (.tmp 92) rfl d1.toArray d2.toArray rfl rfl _ (by kernel_rfl) (HEQ.out _) (some 93) rfl ?_) | (refine wpList_store_mid rfl 25 _ _ rfl sb (3 + j * 4) #[.string nm, .bool (y1 == 1), .int .i64 y2, .int .i64 y3] rfl rfl HTH.out HI4.out HONE.out ?_; rw [HWX.out]))
              refine ⟨⟨j + 1, na, ca, Aa, l.drop 18, _, false, rfl, rfl, HLT.out, HCA.out, HSF, HLL2, HB18, HVS2, ⟨fun h => absurd h (by decide)⟩, HQ3⟩, meas_i j 8 HLT.out _ rfl⟩
            | true =>
              cases b2 with
              | false =>
                go_wp2_with (first | (refine wpList_load_mid rfl 57 _ rfl (w6.heap.size + 1) 0 rfl d1 _ HR1.out Try.underlying57 rfl (by rw [HZ1.out]; kernel_rfl) ?_) | (refine wpList_load_mid rfl 57 _ rfl w5.heap.size 0 rfl d2 _ HR2.out Try.underlying57 rfl (by rw [HZ2.out]; kernel_rfl) ?_) | ((with_reducible refine gate_dst (N := 93) rfl ?_); refine wpList_eql rfl 57 57 (.tmp 91) (.tmp 92) rfl d1.toArray d2.toArray rfl rfl _ (by kernel_rfl) (HEQ.out _) (some 93) rfl ?_) | (refine wpList_store_mid rfl 25 _ _ rfl sb (3 + j * 4) #[.string nm, .bool (y1 == 1), .int .i64 y2, .int .i64 y3] rfl rfl HTH.out HI4.out HONE.out ?_; rw [HWX.out]))
                refine ⟨⟨j + 1, na, ca, Aa, l.drop 18, _, false, rfl, rfl, HLT.out, HCA.out, HSF, HLL2, HB18, HVS2, ⟨fun h => absurd h (by decide)⟩, HQ3⟩, meas_i j 8 HLT.out _ rfl⟩
              | true =>
                go_wp2_with (first | (refine wpList_load_mid rfl 57 _ rfl (w6.heap.size + 1) 0 rfl d1 _ HR1.out Try.underlying57 rfl (by rw [HZ1.out]; kernel_rfl) ?_) | (refine wpList_load_mid rfl 57 _ rfl w5.heap.size 0 rfl d2 _ HR2.out Try.underlying57 rfl (by rw [HZ2.out]; kernel_rfl) ?_) | ((with_reducible refine gate_dst (N := 93) rfl ?_); refine wpList_eql rfl 57 57 (.tmp 91) (.tmp 92) rfl d1.toArray d2.toArray rfl rfl _ (by kernel_rfl) (HEQ.out _) (some 93) rfl ?_) | (refine wpList_store_mid rfl 25 _ _ rfl sb (3 + j * 4) #[.string nm, .bool (y1 == 1), .int .i64 y2, .int .i64 y3] rfl rfl HTH.out HI4.out HONE.out ?_; rw [HWX.out]))
                refine ⟨⟨j + 1, na, ca, Aa, l.drop 18, _, true, rfl, rfl, HLT.out, HCA.out, HSF, HLL2, HB18, HVS2, ⟨fun _ => HPR2.out⟩, HQ3⟩, meas_i j 8 HLT.out _ rfl⟩
        · have hc2 : (if 11 < x1 then (11 : Int) else x1) = 11 := by split <;> omega
          have hc3 : decide (x1 ≤ 10) = false := decide_eq_false hc1
          cases G with
          | false =>
            go_wp2_with fail
            refine (super_next.st HS.out HC.out 1 (by decide) (by decide) (by rw [HN.out]; have := HLT.out; omega) (by rw [HN.out]; omega) HBB.out).mono ?_
            rintro e w5 ⟨A5, n5, c5, rfl, hc5, hs5⟩
            rw [HX1.out]
            have HS5 := Aside0.mk (hs5.alloc_ (byC (List.replicate 10 0)) 57)
            have HC5 := Aside0.mk hc5
            have HN5 := Aside0.mk (show n5 = 231 - 18 * j from by rw [← rd_len hs5.swap, HL1.out])
            clear hs5 hc5 k0
            have k0 := blk_cell HS5.out.swap.blk_is 0
            go_wp2_with fail
            go_region_held3 (fun w' => w'.cell? ⟨BB, 0, none⟩ = some (.slice A5 n5 c5)) (first | exact k0 | go_keep)
              ((refine St.copy_bytes rfl (.tmp 60) (.tmp 61) 22 22 rfl 5 Try.underlying22 (by kernel_rfl) w5.heap.size 10 10 57 (by decide) rfl A5 n5 c5 rfl (by rw [HN5.out]; have := HLT.out; omega) (l.drop 1) (rd_C (HS5.out.drew.front 2)) (List.replicate 10 0) (by decide) HS5.out.drew ?_; intro w6 hs6; rw [HLB.out] at hs6; have HS6 := Aside0.mk hs6; clear k0; have k0 := blk_cell hs6.swap.blk_is 0; clear hs6))
            obtain ⟨A7, hsl7, hs7⟩ := rd_cut (HS6.out.front 2) HC5.out 10 (by rw [HN5.out]; have := HLT.out; omega)
            obtain ⟨n7, hn7⟩ : ∃ x, n5 - 10 = x := ⟨_, rfl⟩
            obtain ⟨c7, hc7⟩ : ∃ x, c5 - 10 = x := ⟨_, rfl⟩
            rw [hn7, hc7, show ((10 : Nat) : Int) = 10 from rfl] at hsl7
            rw [hn7, show (l.drop 1).drop 10 = l.drop 11 from by rw [List.drop_drop]] at hs7
            have HC7 := Aside0.mk (show n7 ≤ c7 from by have := HC5.out; omega)
            have HS7 := Aside0.mk ((hs7.front 2).blk_set 0 (.slice A7 n7 c7))
            have HN7 := Aside0.mk (show n7 = 221 - 18 * j from by rw [← hn7, HN5.out]; omega)
            have f0 := blk_frozen (hs7.front 2).blk_is 0
            clear hs7 hn7 hc7
            go_wp2_with fail
            go_meet
            exact ⟨false, n7, c7, A7, _, vs, rfl, HC7.out, ⟨(HS7.out.front 2).drop.front 2⟩, HVS, ⟨by rw [List.length_drop, HLL.out]; omega⟩, ⟨fun h => absurd h (by decide)⟩, ⟨by rw [← HQ2.out, Bool.false_and]; first | rfl | (rw [HVG.out, hc3]; rfl)⟩⟩
          | true =>
            go_wp2_with fail
            refine (super_next.st HS.out HC.out 1 (by decide) (by decide) (by rw [HN.out]; have := HLT.out; omega) (by rw [HN.out]; omega) HBB.out).mono ?_
            rintro e w5 ⟨A5, n5, c5, rfl, hc5, hs5⟩
            rw [HX1.out]
            have HS5 := Aside0.mk (hs5.alloc_ (byC (List.replicate 10 0)) 57)
            have HC5 := Aside0.mk hc5
            have HN5 := Aside0.mk (show n5 = 231 - 18 * j from by rw [← rd_len hs5.swap, HL1.out])
            clear hs5 hc5 k0
            have k0 := blk_cell HS5.out.swap.blk_is 0
            go_wp2_with fail
            go_region_held3 (fun w' => w'.cell? ⟨BB, 0, none⟩ = some (.slice A5 n5 c5)) (first | exact k0 | go_keep)
              ((refine St.copy_bytes rfl (.tmp 60) (.tmp 61) 22 22 rfl 5 Try.underlying22 (by kernel_rfl) w5.heap.size 10 10 57 (by decide) rfl A5 n5 c5 rfl (by rw [HN5.out]; have := HLT.out; omega) (l.drop 1) (rd_C (HS5.out.drew.front 2)) (List.replicate 10 0) (by decide) HS5.out.drew ?_; intro w6 hs6; rw [HLB.out] at hs6; have HS6 := Aside0.mk hs6; clear k0; have k0 := blk_cell hs6.swap.blk_is 0; clear hs6))
            obtain ⟨A7, hsl7, hs7⟩ := rd_cut (HS6.out.front 2) HC5.out 10 (by rw [HN5.out]; have := HLT.out; omega)
            obtain ⟨n7, hn7⟩ : ∃ x, n5 - 10 = x := ⟨_, rfl⟩
            obtain ⟨c7, hc7⟩ : ∃ x, c5 - 10 = x := ⟨_, rfl⟩
            rw [hn7, hc7, show ((10 : Nat) : Int) = 10 from rfl] at hsl7
            rw [hn7, show (l.drop 1).drop 10 = l.drop 11 from by rw [List.drop_drop]] at hs7
            have HC7 := Aside0.mk (show n7 ≤ c7 from by have := HC5.out; omega)
            have HS7 := Aside0.mk ((hs7.front 2).blk_set 0 (.slice A7 n7 c7))
            have HN7 := Aside0.mk (show n7 = 221 - 18 * j from by rw [← hn7, HN5.out]; omega)
            have f0 := blk_frozen (hs7.front 2).blk_is 0
            clear hs7 hn7 hc7
            go_wp2_with fail
            go_meet
            exact ⟨false, n7, c7, A7, _, vs, rfl, HC7.out, ⟨(HS7.out.front 2).drop.front 2⟩, HVS, ⟨by rw [List.length_drop, HLL.out]; omega⟩, ⟨fun h => absurd h (by decide)⟩, ⟨by rw [← HQ2.out, Bool.false_and]; first | rfl | (rw [HVG.out, hc3]; rfl)⟩⟩
      · have l1 : decide ((j : Int) < 8) = false := decide_eq_false (by omega)
        obtain rfl : j = 8 := by omega
        go_wp2_with fail
        go_meet
        refine ⟨G, n, c, A, l, vs, rfl, HC.out, ⟨HS.out.front 2⟩, HVS, ⟨by rw [HLL.out]; decide⟩, ⟨fun hg => ?_⟩, HQ⟩
        obtain ⟨pre, h1, h2, h3⟩ := HPR.out hg
        rw [h2, ← h3]
        simp [volsP]
  case rest =>
    clear HSL4 HC4 HN4 HL4 HBL f2 e2' HVV HGG
    obtain ⟨G, n, c, A, l, vs, rfl, hc, HS, HVS, HLE2, HVE, HQ⟩ := hcut
    have hln := rd_len (HS.out.front 2)
    have HC := Aside0.mk (rd_C (HS.out.front 2))
    have HLN2 := Aside0.mk hln
    have HN232 := Aside0.mk (show n ≤ 232 from by rw [← hln]; exact HLE2.out)
    have HQ0 := Aside0.mk (show (G && zerosB l 0) = GG from by rw [zeros_start]; exact HQ.out)
    have HVT := Aside0.mk (show (G = true → vs = VV) from HVE.out)
    have b0 := blk_cell HS.out.swap.blk_is 0
    clear hln hc HQ HVE HLE2
    have HGV := Aside0.mk (show GG = true → vs = VV from fun h => HVT.out (by have := HQ0.out; rw [h] at this; revert this; cases G <;> simp))
    go_wp2_with fail
    clear b0
    go_loop [9, 105] (fun gv iv => ∃ (k : Nat) (G' : Bool), iv = .int .i64 k ∧ gv = .bool G' ∧ k ≤ n ∧ Aside0 ((G' && zerosB l k) = GG)) (fun _ iv => n - (intOf iv).toNat)
    case atStart => exact ⟨0, G, rfl, rfl, by omega, HQ0⟩
    case round =>
      obtain ⟨k, G', rfl, rfl, hk, HQ⟩ := hrel
      by_cases hlt : k < n
      · have l1 : decide ((k : Int) < (n : Int)) = true := decide_eq_true (by omega)
        have l2 : (k : Int) < (n : Int) := by omega
        have HLT := Aside0.mk hlt
        have e1 := Aside0.mk (inc_i k (by have := HN232.out; omega))
        have hz := zeros_step l k (by rw [HLN2.out]; exact hlt)
        obtain ⟨ad, rfl, hcell⟩ := Kd.at_int HC.out (k : Int) (Int.natCast_nonneg k) l2
        rw [Int.toNat_natCast] at hcell
        obtain ⟨x, hx⟩ : ∃ x, rd l (k : Int) = x := ⟨_, rfl⟩
        rw [hx] at hz hcell
        obtain ⟨b, hb⟩ : ∃ b, (x == 0) = b := ⟨_, rfl⟩
        rw [hb] at hz
        have HQ2 := Aside0.mk (show ((G' && b) && zerosB l (k + 1)) = GG from by rw [← HQ.out, hz, Bool.and_assoc])
        clear hx hz hlt hk HQ
        cases G' with
        | false =>
          go_wp2_with fail
          exact ⟨⟨k + 1, false, by rw [e1.out], rfl, HLT.out, HQ2⟩, meas_i k n HLT.out _ e1.out⟩
        | true =>
          cases b with
          | false =>
            go_wp2_with fail
            exact ⟨⟨k + 1, false, by rw [e1.out], rfl, HLT.out, HQ2⟩, meas_i k n HLT.out _ e1.out⟩
          | true =>
            go_wp2_with fail
            exact ⟨⟨k + 1, true, by rw [e1.out], rfl, HLT.out, HQ2⟩, meas_i k n HLT.out _ e1.out⟩
      · have l1 : decide ((k : Int) < (n : Int)) = false := decide_eq_false (by omega)
        have l2 : ¬ (k : Int) < (n : Int) := by omega
        have hkn : k = l.length := by rw [HLN2.out]; omega
        have HQ2 := Aside0.mk (show G' = GG from by have := HQ.out; rw [hkn, zeros_end, Bool.and_true] at this; exact this)
        clear hkn hk HQ hlt
        cases G' with
        | false =>
          have HG0 := Aside0.mk (show GG = false from HQ2.out.symm)
          obtain rfl : none = R := by rw [← HRR.out, if_neg]; rintro ⟨h, _⟩; rw [HGP.out, HG0.out] at h; cases h
          have HXF := Aside0.mk ((HS.out.front 3).swap.drop.swap.drop.swap.drop)
          go_wp2_with (refine Own.wpList_store_row rfl 28 _ _ rfl w.heap.size rfl Z35 rfl 28 _ HXF.out.blk_is (by kernel_rfl) rfl HZ.out ?_)
          exact bodyPost_ret (results_ct rfl _ _ w.heap.size 28 Z35 (0, 0) _ rfl (blk_row_set HXF.out Z35).blk_is Try.underlying28 rfl (by kernel_rfl)) rfl ⟨rfl, (blk_row_set HXF.out Z35).drop⟩
        | true =>
          have HG1 := Aside0.mk (show GG = true from HQ2.out.symm)
          have hvv : vs = VV := HGV.out HG1.out
          subst hvv
          have HRR2 := Aside0.mk (show (if mayR ⟨gen, sec, lg, vs⟩ = true then some ⟨gen, sec, lg, vs⟩ else none) = R from by
            rw [← HRR.out, HSP.out, HGP.out, HG1.out]
            by_cases h : mayR ⟨gen, sec, lg, vs⟩ = true
            · rw [if_pos h, if_pos ⟨rfl, h⟩]
            · rw [if_neg h, if_neg (fun q => h q.2)])
          have hM := fun W => super_May.st ⟨gen, sec, lg, vs⟩ HVS.out.1 (fun v hv => Nat.le_trans (HVS.out.2 v hv) (by decide)) W
          obtain ⟨b, hb⟩ : ∃ b, mayR ⟨gen, sec, lg, vs⟩ = b := ⟨_, rfl⟩
          rw [hb] at hM
          have hr := range_all HS.out.blk_is
          obtain ⟨dl, hdl⟩ : ∃ d, (SupS.cells ⟨gen, sec, lg, vs⟩).toArray.toList = d := ⟨_, rfl⟩
          have HDA := Aside0.mk (show (SupS.cells ⟨gen, sec, lg, vs⟩).toArray = dl.toArray from by rw [← hdl])
          have HDL := Aside0.mk (show dl.length = 35 from by rw [← hdl]; exact cells_length _ HVS.out.1)
          have HDO := Aside0.mk (show ∀ v ∈ dl, v.oneCell' = true from by rw [← hdl]; exact fun v hv => cells_one ⟨gen, sec, lg, vs⟩ v (by simpa using hv))
          rw [hdl] at hr
          rw [HDA.out] at hM
          have HRL := Aside0.mk hr
          have HM := Aside0.mk hM
          rw [hb] at HRR2
          clear hM hr hdl hb
          go_wp2_with (refine wpList_load_midg (by rfl) 28 _ rfl sb 0 rfl dl _ HRL.out Try.underlying28 rfl (by rw [HDL.out]; kernel_rfl) ?_)
          refine (HM.out _).mono ?_
          rintro e wm ⟨rfl, hbm⟩
          have HSM := Aside0.mk (HS.out.below_ hbm)
          clear hbm
          cases b with
          | false =>
            obtain rfl : none = R := by rw [← HRR2.out]; rfl
            have HXF := Aside0.mk ((HSM.out.front 3).swap.drop.swap.drop.swap.drop)
            go_wp2_with (refine Own.wpList_store_row rfl 28 _ _ rfl w.heap.size rfl Z35 rfl 28 _ HXF.out.blk_is (by kernel_rfl) rfl HZ.out ?_)
            exact bodyPost_ret (results_ct rfl _ _ w.heap.size 28 Z35 (0, 0) _ rfl (blk_row_set HXF.out Z35).blk_is Try.underlying28 rfl (by kernel_rfl)) rfl ⟨rfl, (blk_row_set HXF.out Z35).drop⟩
          | true =>
            obtain rfl : some ⟨gen, sec, lg, vs⟩ = R := by rw [← HRR2.out]; rfl
            have HRL2 := Aside0.mk (show wm.rangeAt sb 0 dl from by have := range_all HSM.out.blk_is; rwa [HDA.out, List.toList_toArray] at this)
            have HXF := Aside0.mk ((HSM.out.front 3).swap.drop.swap.drop.swap.drop)
            go_wp2_with (first | (refine wpList_load_midg (by rfl) 28 _ rfl sb 0 rfl dl _ HRL2.out Try.underlying28 rfl (by rw [HDL.out]; kernel_rfl) ?_) | (refine Own.wpList_store_row rfl 28 _ _ rfl w.heap.size rfl dl.toArray rfl 28 _ HXF.out.blk_is (by rw [List.size_toArray, HDL.out]; kernel_rfl) (by rw [List.size_toArray, HDL.out]; rfl) (fun v hv => HDO.out v (by simpa using hv)) ?_))
            refine bodyPost_ret (results_ct rfl _ _ w.heap.size 28 dl.toArray (0, 0) _ rfl (blk_row_set HXF.out dl.toArray).blk_is Try.underlying28 rfl (by rw [List.size_toArray, HDL.out]; kernel_rfl)) rfl ⟨?_, (blk_row_set HXF.out dl.toArray).drop⟩
            rw [← HDA.out]
            rfl
end Go.Proofs.Ytjpebckmjlmkmaa.P
