/- The law SuperChooses, walked: of two superblocks the one with the greater generation counts. -/
import Derived.Test.YtjpebckmjlmkmaaNewerF
import Derived.Test.YtjpebckmjlmkmaaBackW
namespace Go.Proofs.Ytjpebckmjlmkmaa.P
open Go.RowKit Go.Proofs.YtjpebckmjlmkmaaW.PrintWords Go.Proofs.YtjpebckmjlmkmaaW.PrintLast Go.Proofs.YtjpebckmjlmkmaaW.PrintMore Go.Proofs.Ytjpebckmjlmkmaa.NumLem Go.Proofs.Ytjpebckmjlmkmaa.SealLem Go.Proofs.Ytjpebckmjlmkmaa.Sep
set_option linter.unusedVariables false
set_option linter.unusedSimpArgs false
/-- '!=' of arrays or structs behind a guard, as the walk meets it. -/
theorem wpList_neqg {P : Program} {ops : Array Oper} {rest : List Oper} {o : Oper} {a : Act} {w : World} {Q : Exit → Act → World → Prop} (hw : Region.wanted o (yielded ops a.tmps) = true) (t u : TypeId) (x y : Operand) (ho : o.op = .binOp .neq t x y u) (xs ys : Array Value)
    (hx : a.eval x = .agg xs) (hy : a.eval y = .agg ys) (b : Bool) (hm : P.eqGuardType P.depth t = false) (hr : (binOp .neq t (.agg xs) (.agg ys)).run P w = .ok (.bool b) w) (N : Option Tmp) (hd : o.dst = N) (h : wpList P ops Q rest (a.put N (.bool b)) w) : wpList P ops Q (o :: rest) a w := by
  refine wpList_step fun K hK => ?_
  rw [if_pos hw]
  have hg := run_eqGuard_agg (P := P) w .neq t x y xs ys hm
  have he : (execOp a.eval o).run P w = .ok (.value (.bool b)) w := by
    unfold execOp
    simp only [ho, hx, hy, Sem.run_bind, hg, hr, Result.andThen_ok, Sem.run_pure]
  unfold Oper.wp
  rw [he]
  subst hd
  exact hK _ _ h
theorem neq_sup (s : SupS) (hl : s.vols.length = 8) (w : World) : (binOp .neq 28 (.agg s.cells.toArray) (.agg s.cells.toArray)).run Try.prog w = .ok (.bool false) w := by
  have h := eql_sup s hl w
  rw [run_eql_struct] at h
  rw [run_neq_struct]
  cases hq : (Op.equalIn 10000 28 (.agg s.cells.toArray) (.agg s.cells.toArray)).run Try.prog w with
  | ok b w' =>
    rw [hq] at h
    simp only [Result.andThen_ok, Result.ok.injEq, Value.bool.injEq] at h ⊢
    rw [h.1, h.2]
    exact ⟨rfl, rfl⟩
  | halt x w' => rw [hq] at h; cases h
/-- What a choice of two that were written comes to. -/
theorem nOf_two (s t : SupS) : nOf (some s) (some t) = if t.gen > s.gen then (t, 1, 0) else (s, 0, 0) := by
  by_cases h : t.gen > s.gen
  · simp only [nOf, newerR, if_pos h]
  · simp only [nOf, newerR, if_neg h]
theorem nOf_b (t : SupS) : nOf none (some t) = (t, 1, 0) := rfl
theorem nOf_none : nOf none none = (supZ, 0, 27) := rfl
set_option maxHeartbeats 16000000 in
set_option maxRecDepth 100000 in
theorem law_chooses (s : SupS) (hl : s.vols.length = 8) (hn : ∀ v ∈ s.vols, v.name.size ≤ 9223372036854775807) (t : SupS) (hl2 : t.vols.length = 8) (hn2 : ∀ v ∈ t.vols, v.name.size ≤ 9223372036854775807) (x0 x1 : Int) (w : World) :
    Calls Try.prog 9 #[.agg s.cells.toArray, .agg t.cells.toArray, .agg #[.int .i64 x0, .int .i64 x1]] w fun e w' => e = .returned (.bool true) ∧ Below w.heap.size w w' := by
  obtain ⟨d1, hd1⟩ : ∃ d, s.cells = d := ⟨_, rfl⟩
  obtain ⟨d2, hd2⟩ : ∃ d, t.cells = d := ⟨_, rfl⟩
  have HW1 := Aside0.mk (fun {w0 W : World} {ps : List HP} (h : St w0 W ps) => hd1 ▸ super_Write.st s hl hn 0 h)
  have HW2 := Aside0.mk (fun {w0 W : World} {ps : List HP} (h : St w0 W ps) => hd2 ▸ super_Write.st t hl2 hn2 1 h)
  have HDL1 := Aside0.mk (show d1.length = 35 from by rw [← hd1]; exact cells_length _ hl)
  have HDL2 := Aside0.mk (show d2.length = 35 from by rw [← hd2]; exact cells_length _ hl2)
  have HDO1 := Aside0.mk (show ∀ v ∈ d1, v.oneCell' = true from by rw [← hd1]; exact fun v hv => cells_one _ v hv)
  have HDO2 := Aside0.mk (show ∀ v ∈ d2, v.oneCell' = true from by rw [← hd2]; exact fun v hv => cells_one _ v hv)
  have HEQ2 := Aside0.mk (show ∀ W, (binOp .eql 28 (.agg d2.toArray) (.agg d2.toArray)).run Try.prog W = .ok (.bool true) W from fun W => by rw [← hd2]; exact eql_sup _ hl2 W)
  have HNE1 := Aside0.mk (show ∀ W, (binOp .neq 28 (.agg d1.toArray) (.agg d1.toArray)).run Try.prog W = .ok (.bool false) W from fun W => by rw [← hd1]; exact neq_sup _ hl W)
  have HNE2 := Aside0.mk (show ∀ W, (binOp .neq 28 (.agg d2.toArray) (.agg d2.toArray)).run Try.prog W = .ok (.bool false) W from fun W => by rw [← hd2]; exact neq_sup _ hl2 W)
  have HDD1 := Aside0.mk hd1
  have HDD2 := Aside0.mk hd2
  have HLS := Aside0.mk hl
  have HLT := Aside0.mk hl2
  rw [hd1, hd2]
  have HS := Aside0.mk (show St w _ (blk (w.heap.size + 1 + 1) #[.int .i64 x0, .int .i64 x1] 45 :: blk (w.heap.size + 1) d2.toArray 28 :: blk w.heap.size d1.toArray 28 :: []) from by
    have := (((St.start w).alloc_ d1.toArray 28).alloc_ d2.toArray 28).alloc_ #[.int .i64 x0, .int .i64 x1] 45
    simpa using this)
  obtain ⟨r1, hr1⟩ : ∃ r, writeR s 0 = r := ⟨_, rfl⟩
  obtain ⟨r2, hr2⟩ : ∃ r, writeR t 1 = r := ⟨_, rfl⟩
  rw [hr1] at HW1
  rw [hr2] at HW2
  have HWR1 := Aside0.mk hr1
  have HWR2 := Aside0.mk hr2
  clear hl hn hl2 hn2 hd1 hd2 hr1 hr2
  obtain ⟨la, ea⟩ := r1
  obtain ⟨lb, eb⟩ := r2
  go_enter Try.func9, Try.ntmps9
  go_wp2_with fail
  refine (cambiumlaw07_shown.calls true _ rfl).mono ?_
  rintro e w1 ⟨rfl, hb⟩
  have HS1 := Aside0.mk (HS.out.below_ hb)
  have HRG := Aside0.mk (show w1.rangeAt w.heap.size 0 d1 from by have := range_all (HS1.out.front 2).blk_is; simpa using this)
  clear hb HS
  go_wp2_with (refine wpList_load_midg (by rfl) 28 _ rfl w.heap.size 0 rfl d1 _ HRG.out Try.underlying28 rfl (by rw [HDL1.out]; kernel_rfl) ?_)
  refine (HW1.out HS1.out).mono ?_
  rintro e w2 ⟨A, m, c, rfl, hs2⟩
  have HS2 := Aside0.mk hs2
  have HRG2 := Aside0.mk (show w2.rangeAt (w.heap.size + 1) 0 d2 from by have := range_all (HS2.out.front 2).blk_is; simpa using this)
  clear hs2 HRG HW1 HS1
  go_wp2_with (refine wpList_load_midg (by rfl) 28 _ rfl (w.heap.size + 1) 0 rfl d2 _ HRG2.out Try.underlying28 rfl (by rw [HDL2.out]; kernel_rfl) ?_)
  refine (HW2.out HS2.out).mono ?_
  rintro e w3 ⟨B, k, d, rfl, hs3⟩
  have HS3 := Aside0.mk hs3
  clear hs3 HRG2 HW2 HS2
  by_cases hm : ea = 0 ∧ eb = 0
  case neg =>
    by_cases h1 : ea = 0
    · have h2 : ¬ eb = 0 := fun h => hm ⟨h1, h⟩
      have t1 : (ea != 0) = false := by simpa using h1
      have t2 : (eb != 0) = true := by simpa using h2
      clear hm h1 h2
      go_wp2_with fail
      go_ret
      exact ⟨rfl, HS3.out.below⟩
    · have t1 : (ea != 0) = true := by simpa using h1
      clear hm h1
      go_wp2_with fail
      go_ret
      exact ⟨rfl, HS3.out.below⟩
  obtain ⟨rfl, rfl⟩ := hm
  have HWO := Aside0.mk (write_opens HLS.out HWR1.out)
  have HWP := Aside0.mk (write_opens HLT.out HWR2.out)
  have hm6 : m = 256 := by rw [HS3.out.swap.row_C.1]; exact HWO.out.2.2.1
  subst hm6
  have hk6 : k = 256 := by rw [HS3.out.row_C.1]; exact HWP.out.2.2.1
  subst hk6
  have HBA := Aside0.mk (show Bytes la from HWO.out.2.2.2.1)
  have HBB := Aside0.mk (show Bytes lb from HWP.out.2.2.2.1)
  have HRA := Aside0.mk (show readR la 0 = some s from read_write HLS.out HWR1.out)
  have HRB := Aside0.mk (show readR lb 1 = some t from read_write HLT.out HWR2.out)
  go_wp2_with fail
  refine (super_Newer.st HS3.out HS3.out.swap.row_C.2.2 HS3.out.swap.row_C.2.1 (by decide) HBA.out HS3.out.row_C.2.2 HS3.out.row_C.2.1 (by decide) HBB.out).mono ?_
  rintro e w4 ⟨rfl, hs4⟩
  rw [HRA.out, HRB.out, nOf_two]
  have HS4 := Aside0.mk hs4
  have g2 := (blk_cell (HS4.out.front 3).blk_is 0).trans (cell0 HDD2.out)
  have g1 := (blk_cell (HS4.out.front 4).blk_is 0).trans (cell0 HDD1.out)
  clear hs4 HS3
  by_cases hg : t.gen > s.gen
  · have hg1 : decide (t.gen > s.gen) = true := decide_eq_true hg
    rw [if_pos hg, show ((t, 1, 0) : SupS × Int × Int).1.cells = d2 from HDD2.out, show ((t, 1, 0) : SupS × Int × Int).2.1 = 1 from rfl, show ((t, 1, 0) : SupS × Int × Int).2.2 = 0 from rfl]
    have HX4 := Aside0.mk (HS4.out.alloc_ Z35 28)
    obtain ⟨w5, hw5⟩ : ∃ W, (w4.alloc (.cells Z35 28)).setRow w4.heap.size d2.toArray = W := ⟨_, rfl⟩
    have hs5 := blk_row_set HX4.out d2.toArray
    rw [hw5] at hs5
    conv at hw5 => lhs; arg 1; unfold Z35
    have HW5 := Aside0.mk hw5
    have HS5 := Aside0.mk hs5
    clear hw5 hs5
    have HX5 := Aside0.mk (HS5.out.alloc_ Z35 28)
    obtain ⟨w6, hw6⟩ : ∃ W, (w5.alloc (.cells Z35 28)).setRow w5.heap.size d1.toArray = W := ⟨_, rfl⟩
    have hs6 := blk_row_set HX5.out d1.toArray
    rw [hw6] at hs6
    conv at hw6 => lhs; arg 1; unfold Z35
    have HW6 := Aside0.mk hw6
    have HS6 := Aside0.mk hs6
    clear hw6 hs6
    have HL1 := Aside0.mk (show w5.rangeAt w.heap.size 0 d1 from by have := range_all (HS5.out.front 5).blk_is; simpa using this)
    obtain ⟨wf, hwf⟩ : ∃ W, w6.setRow w5.heap.size d2.toArray = W := ⟨_, rfl⟩
    have hsf := blk_row_set HS6.out d2.toArray
    rw [hwf] at hsf
    have HWF := Aside0.mk hwf
    clear hwf
    have HL2 := Aside0.mk (show w6.rangeAt (w.heap.size + 1) 0 d2 from by have := range_all (HS6.out.front 5).blk_is; simpa using this)
    have p2 := (blk_cell (HS6.out.front 5).blk_is 0).trans (cell0 HDD2.out)
    have p1 := (blk_cell (HS6.out.front 6).blk_is 0).trans (cell0 HDD1.out)
    have HK1 := Aside0.mk (show wf.rangeAt w4.heap.size 0 d2 from by have := range_all (hsf.swap).blk_is; simpa using this)
    have HK2 := Aside0.mk (show wf.rangeAt w5.heap.size 0 d2 from by have := range_all hsf.blk_is; simpa using this)
    have HSF := Aside0.mk hsf.drop.drop
    clear hsf
    have q0 := blk_cell (HSF.out.front 2).blk_is 0
    have q1 := blk_cell (HSF.out.front 2).blk_is 1
    go_upto_region 9 with (first | (refine Own.wpList_store_row rfl 28 _ _ rfl w4.heap.size rfl d2.toArray rfl 28 _ HX4.out.blk_is (by rw [List.size_toArray, HDL2.out]; kernel_rfl) (by rw [List.size_toArray, HDL2.out]; rfl) (fun v hv => HDO2.out v (by simpa using hv)) ?_; rw [HW5.out]) | (refine wpList_load_midg (by rfl) 28 _ rfl w.heap.size 0 rfl d1 _ HL1.out Try.underlying28 rfl (by rw [HDL1.out]; kernel_rfl) ?_) | (refine Own.wpList_store_row rfl 28 _ _ rfl w5.heap.size rfl d1.toArray rfl 28 _ HX5.out.blk_is (by rw [List.size_toArray, HDL1.out]; kernel_rfl) (by rw [List.size_toArray, HDL1.out]; rfl) (fun v hv => HDO1.out v (by simpa using hv)) ?_; rw [HW6.out]))
    go_upto_region 12 with (first | (refine wpList_load_midg (by rfl) 28 _ rfl (w.heap.size + 1) 0 rfl d2 _ HL2.out Try.underlying28 rfl (by rw [HDL2.out]; kernel_rfl) ?_) | (refine Own.wpList_store_row rfl 28 _ _ rfl w5.heap.size rfl d2.toArray rfl 28 _ HS6.out.blk_is (by rw [List.size_toArray, HDL2.out]; kernel_rfl) (by rw [List.size_toArray, List.size_toArray, HDL2.out, HDL1.out]) (fun v hv => HDO2.out v (by simpa using hv)) ?_; rw [HWF.out]))
    clear g1 g2 p1 p2
    obtain ⟨i, hi2, hpl⟩ := place_of x0
    obtain ⟨y, hy⟩ : ∃ y, (if x1 % 256 = 0 then (1 : Int) else x1 % 256) = y := ⟨_, rfl⟩
    have HYR := Aside0.mk (show (0 ≤ y ∧ y < 256) ∧ y ≠ 0 from by rw [← hy]; split <;> omega)
    have HY := Aside0.mk hy
    have HPL := Aside0.mk hpl
    clear hy hpl
    obtain ⟨gb, rfl, hcell, hfro, hset⟩ := (HSF.out.swap).row_at i hi2 0
    obtain ⟨z, hz⟩ : ∃ z, la.getD i 0 = z := ⟨_, rfl⟩
    rw [hz] at hcell
    have hil : i < la.length := by rw [HWO.out.2.2.1]; exact hi2
    have hzz : la[i] = z := by rw [← hz, List.getD_eq_getElem?_getD, List.getElem?_eq_getElem hil]; rfl
    have hzr := HBA.out _ (List.getElem_mem hil)
    rw [hzz] at hzr
    obtain ⟨x, hx⟩ : ∃ x, Go.bits .xor .u8 z y = x := ⟨_, rfl⟩
    have ht := turned_ne z y hzr HYR.out.1 HYR.out.2
    rw [hx] at ht
    have HSX := Aside0.mk (hset x)
    have HRT := Aside0.mk (show readR (la.set i x) 0 = none from read_turned HLS.out HWR1.out 0 i hil x ht.1 (by rw [hzz]; exact ht.2))
    have HBX := Aside0.mk (show Bytes (la.set i x) from fun u hu => by
      rcases List.mem_or_eq_of_mem_set hu with h | h
      · exact HBA.out u h
      · rw [h]; exact ht.1)
    have l1 : (i : Int) < 256 := by omega
    have HXX := Aside0.mk hx
    clear hset hz hil hzz hzr ht hi2 hx HYR
    rcases HPL.out with ⟨h1, h2⟩ | ⟨h1, h2⟩
    · have h3 : decide (Int.tmod x0 256 < 0) = true := decide_eq_true h1
      by_cases hz0 : x1 % 256 = 0
      · obtain rfl : (1 : Int) = y := by rw [← HY.out, if_pos hz0]
        have hzb : (x1 % 256 == 0) = true := by simpa using hz0
        clear hz0
        go_wp2_with (first | (refine wpList_load_midg (by rfl) 28 _ rfl w4.heap.size 0 rfl d2 _ HK1.out Try.underlying28 rfl (by rw [HDL2.out]; kernel_rfl) ?_) | (refine wpList_load_midg (by rfl) 28 _ rfl w5.heap.size 0 rfl d2 _ HK2.out Try.underlying28 rfl (by rw [HDL2.out]; kernel_rfl) ?_) | (refine wpList_neqg (by rfl) 28 28 (.tmp 60) (.tmp 61) rfl d2.toArray d2.toArray rfl rfl false (by kernel_rfl) (HNE2.out _) (some 62) rfl ?_))
        rw [HXX.out]
        refine (super_Newer.st HSX.out HSX.out.row_C.2.2 HSX.out.row_C.2.1 (by decide) HBX.out HSX.out.swap.row_C.2.2 HSX.out.swap.row_C.2.1 (by decide) HBB.out).mono ?_
        rintro e w8 ⟨rfl, hs8⟩
        rw [HRT.out, HRB.out, nOf_b, show ((t, 1, 0) : SupS × Int × Int).1.cells = d2 from HDD2.out, show ((t, 1, 0) : SupS × Int × Int).2.1 = 1 from rfl, show ((t, 1, 0) : SupS × Int × Int).2.2 = 0 from rfl]
        have HX8 := Aside0.mk (hs8.alloc_ Z35 28)
        obtain ⟨w9, hw9⟩ : ∃ W, (w8.alloc (.cells Z35 28)).setRow w8.heap.size d2.toArray = W := ⟨_, rfl⟩
        have hs9 := blk_row_set HX8.out d2.toArray
        rw [hw9] at hs9
        conv at hw9 => lhs; arg 1; unfold Z35
        have HW9 := Aside0.mk hw9
        have HS9 := Aside0.mk hs9
        clear hw9 hs9
        clear hs8 hcell hfro
        go_wp2_with (refine Own.wpList_store_row rfl 28 _ _ rfl w8.heap.size rfl d2.toArray rfl 28 _ HX8.out.blk_is (by rw [List.size_toArray, HDL2.out]; kernel_rfl) (by rw [List.size_toArray, HDL2.out]; rfl) (fun v hv => HDO2.out v (by simpa using hv)) ?_; rw [HW9.out])
        refine (super_Newer.st HS9.out HS9.out.swap.row_C.2.2 HS9.out.swap.row_C.2.1 (by decide) HBX.out (Kd.C_nil _ _) (Nat.le_refl _) (by decide) Bytes.nil).mono ?_
        rintro e wa ⟨rfl, hsa⟩
        rw [HRT.out, read_none, nOf_none, show ((supZ, 0, 27) : SupS × Int × Int).1.cells.toArray = Z35 from rfl, show ((supZ, 0, 27) : SupS × Int × Int).2.1 = 0 from rfl, show ((supZ, 0, 27) : SupS × Int × Int).2.2 = 27 from rfl]
        have HXA := Aside0.mk (hsa.alloc_ Z35 28)
        obtain ⟨wb, hwb⟩ : ∃ W, (wa.alloc (.cells Z35 28)).setRow wa.heap.size Z35 = W := ⟨_, rfl⟩
        have hsb := blk_row_set HXA.out Z35
        rw [hwb] at hsb
        conv at hwb => lhs; arg 1; unfold Z35
        have HWb := Aside0.mk hwb
        have HSb := Aside0.mk hsb
        clear hwb hsb
        have HG1 := Aside0.mk (show wb.rangeAt w8.heap.size 0 d2 from by have := range_all (HSb.out.swap).blk_is; simpa using this)
        have HG2 := Aside0.mk (show wb.rangeAt (w.heap.size + 1) 0 d2 from by have := range_all (HSb.out.front 5).blk_is; simpa using this)
        clear hsa
        go_wp2_with (first | (refine Own.wpList_store_row rfl 28 _ _ rfl wa.heap.size rfl Z35 rfl 28 _ HXA.out.blk_is (by kernel_rfl) rfl Z35_one ?_; rw [HWb.out]) | (refine wpList_load_midg (by rfl) 28 _ rfl w8.heap.size 0 rfl d2 _ HG1.out Try.underlying28 rfl (by rw [HDL2.out]; kernel_rfl) ?_) | (refine wpList_load_midg (by rfl) 28 _ rfl (w.heap.size + 1) 0 rfl d2 _ HG2.out Try.underlying28 rfl (by rw [HDL2.out]; kernel_rfl) ?_) | (refine wpList_eqlg (by rfl) 28 28 (.tmp 114) (.tmp 115) rfl d2.toArray d2.toArray rfl rfl true (by kernel_rfl) (HEQ2.out _) (some 116) rfl ?_))
        go_ret
        exact ⟨rfl, HSb.out.below⟩
      · have hy : x1 % 256 = y := by rw [← HY.out, if_neg hz0]
        have hzb : (x1 % 256 == 0) = false := by simpa using hz0
        have hyb : (y == 0) = false := by rw [← hy]; exact hzb
        clear hz0
        go_wp2_with (first | (refine wpList_load_midg (by rfl) 28 _ rfl w4.heap.size 0 rfl d2 _ HK1.out Try.underlying28 rfl (by rw [HDL2.out]; kernel_rfl) ?_) | (refine wpList_load_midg (by rfl) 28 _ rfl w5.heap.size 0 rfl d2 _ HK2.out Try.underlying28 rfl (by rw [HDL2.out]; kernel_rfl) ?_) | (refine wpList_neqg (by rfl) 28 28 (.tmp 60) (.tmp 61) rfl d2.toArray d2.toArray rfl rfl false (by kernel_rfl) (HNE2.out _) (some 62) rfl ?_))
        rw [HXX.out]
        refine (super_Newer.st HSX.out HSX.out.row_C.2.2 HSX.out.row_C.2.1 (by decide) HBX.out HSX.out.swap.row_C.2.2 HSX.out.swap.row_C.2.1 (by decide) HBB.out).mono ?_
        rintro e w8 ⟨rfl, hs8⟩
        rw [HRT.out, HRB.out, nOf_b, show ((t, 1, 0) : SupS × Int × Int).1.cells = d2 from HDD2.out, show ((t, 1, 0) : SupS × Int × Int).2.1 = 1 from rfl, show ((t, 1, 0) : SupS × Int × Int).2.2 = 0 from rfl]
        have HX8 := Aside0.mk (hs8.alloc_ Z35 28)
        obtain ⟨w9, hw9⟩ : ∃ W, (w8.alloc (.cells Z35 28)).setRow w8.heap.size d2.toArray = W := ⟨_, rfl⟩
        have hs9 := blk_row_set HX8.out d2.toArray
        rw [hw9] at hs9
        conv at hw9 => lhs; arg 1; unfold Z35
        have HW9 := Aside0.mk hw9
        have HS9 := Aside0.mk hs9
        clear hw9 hs9
        clear hs8 hcell hfro
        go_wp2_with (refine Own.wpList_store_row rfl 28 _ _ rfl w8.heap.size rfl d2.toArray rfl 28 _ HX8.out.blk_is (by rw [List.size_toArray, HDL2.out]; kernel_rfl) (by rw [List.size_toArray, HDL2.out]; rfl) (fun v hv => HDO2.out v (by simpa using hv)) ?_; rw [HW9.out])
        refine (super_Newer.st HS9.out HS9.out.swap.row_C.2.2 HS9.out.swap.row_C.2.1 (by decide) HBX.out (Kd.C_nil _ _) (Nat.le_refl _) (by decide) Bytes.nil).mono ?_
        rintro e wa ⟨rfl, hsa⟩
        rw [HRT.out, read_none, nOf_none, show ((supZ, 0, 27) : SupS × Int × Int).1.cells.toArray = Z35 from rfl, show ((supZ, 0, 27) : SupS × Int × Int).2.1 = 0 from rfl, show ((supZ, 0, 27) : SupS × Int × Int).2.2 = 27 from rfl]
        have HXA := Aside0.mk (hsa.alloc_ Z35 28)
        obtain ⟨wb, hwb⟩ : ∃ W, (wa.alloc (.cells Z35 28)).setRow wa.heap.size Z35 = W := ⟨_, rfl⟩
        have hsb := blk_row_set HXA.out Z35
        rw [hwb] at hsb
        conv at hwb => lhs; arg 1; unfold Z35
        have HWb := Aside0.mk hwb
        have HSb := Aside0.mk hsb
        clear hwb hsb
        have HG1 := Aside0.mk (show wb.rangeAt w8.heap.size 0 d2 from by have := range_all (HSb.out.swap).blk_is; simpa using this)
        have HG2 := Aside0.mk (show wb.rangeAt (w.heap.size + 1) 0 d2 from by have := range_all (HSb.out.front 5).blk_is; simpa using this)
        clear hsa
        go_wp2_with (first | (refine Own.wpList_store_row rfl 28 _ _ rfl wa.heap.size rfl Z35 rfl 28 _ HXA.out.blk_is (by kernel_rfl) rfl Z35_one ?_; rw [HWb.out]) | (refine wpList_load_midg (by rfl) 28 _ rfl w8.heap.size 0 rfl d2 _ HG1.out Try.underlying28 rfl (by rw [HDL2.out]; kernel_rfl) ?_) | (refine wpList_load_midg (by rfl) 28 _ rfl (w.heap.size + 1) 0 rfl d2 _ HG2.out Try.underlying28 rfl (by rw [HDL2.out]; kernel_rfl) ?_) | (refine wpList_eqlg (by rfl) 28 28 (.tmp 114) (.tmp 115) rfl d2.toArray d2.toArray rfl rfl true (by kernel_rfl) (HEQ2.out _) (some 116) rfl ?_))
        go_ret
        exact ⟨rfl, HSb.out.below⟩
    · have h3 : decide (Int.tmod x0 256 < 0) = false := decide_eq_false h1
      by_cases hz0 : x1 % 256 = 0
      · obtain rfl : (1 : Int) = y := by rw [← HY.out, if_pos hz0]
        have hzb : (x1 % 256 == 0) = true := by simpa using hz0
        clear hz0
        go_wp2_with (first | (refine wpList_load_midg (by rfl) 28 _ rfl w4.heap.size 0 rfl d2 _ HK1.out Try.underlying28 rfl (by rw [HDL2.out]; kernel_rfl) ?_) | (refine wpList_load_midg (by rfl) 28 _ rfl w5.heap.size 0 rfl d2 _ HK2.out Try.underlying28 rfl (by rw [HDL2.out]; kernel_rfl) ?_) | (refine wpList_neqg (by rfl) 28 28 (.tmp 60) (.tmp 61) rfl d2.toArray d2.toArray rfl rfl false (by kernel_rfl) (HNE2.out _) (some 62) rfl ?_))
        rw [HXX.out]
        refine (super_Newer.st HSX.out HSX.out.row_C.2.2 HSX.out.row_C.2.1 (by decide) HBX.out HSX.out.swap.row_C.2.2 HSX.out.swap.row_C.2.1 (by decide) HBB.out).mono ?_
        rintro e w8 ⟨rfl, hs8⟩
        rw [HRT.out, HRB.out, nOf_b, show ((t, 1, 0) : SupS × Int × Int).1.cells = d2 from HDD2.out, show ((t, 1, 0) : SupS × Int × Int).2.1 = 1 from rfl, show ((t, 1, 0) : SupS × Int × Int).2.2 = 0 from rfl]
        have HX8 := Aside0.mk (hs8.alloc_ Z35 28)
        obtain ⟨w9, hw9⟩ : ∃ W, (w8.alloc (.cells Z35 28)).setRow w8.heap.size d2.toArray = W := ⟨_, rfl⟩
        have hs9 := blk_row_set HX8.out d2.toArray
        rw [hw9] at hs9
        conv at hw9 => lhs; arg 1; unfold Z35
        have HW9 := Aside0.mk hw9
        have HS9 := Aside0.mk hs9
        clear hw9 hs9
        clear hs8 hcell hfro
        go_wp2_with (refine Own.wpList_store_row rfl 28 _ _ rfl w8.heap.size rfl d2.toArray rfl 28 _ HX8.out.blk_is (by rw [List.size_toArray, HDL2.out]; kernel_rfl) (by rw [List.size_toArray, HDL2.out]; rfl) (fun v hv => HDO2.out v (by simpa using hv)) ?_; rw [HW9.out])
        refine (super_Newer.st HS9.out HS9.out.swap.row_C.2.2 HS9.out.swap.row_C.2.1 (by decide) HBX.out (Kd.C_nil _ _) (Nat.le_refl _) (by decide) Bytes.nil).mono ?_
        rintro e wa ⟨rfl, hsa⟩
        rw [HRT.out, read_none, nOf_none, show ((supZ, 0, 27) : SupS × Int × Int).1.cells.toArray = Z35 from rfl, show ((supZ, 0, 27) : SupS × Int × Int).2.1 = 0 from rfl, show ((supZ, 0, 27) : SupS × Int × Int).2.2 = 27 from rfl]
        have HXA := Aside0.mk (hsa.alloc_ Z35 28)
        obtain ⟨wb, hwb⟩ : ∃ W, (wa.alloc (.cells Z35 28)).setRow wa.heap.size Z35 = W := ⟨_, rfl⟩
        have hsb := blk_row_set HXA.out Z35
        rw [hwb] at hsb
        conv at hwb => lhs; arg 1; unfold Z35
        have HWb := Aside0.mk hwb
        have HSb := Aside0.mk hsb
        clear hwb hsb
        have HG1 := Aside0.mk (show wb.rangeAt w8.heap.size 0 d2 from by have := range_all (HSb.out.swap).blk_is; simpa using this)
        have HG2 := Aside0.mk (show wb.rangeAt (w.heap.size + 1) 0 d2 from by have := range_all (HSb.out.front 5).blk_is; simpa using this)
        clear hsa
        go_wp2_with (first | (refine Own.wpList_store_row rfl 28 _ _ rfl wa.heap.size rfl Z35 rfl 28 _ HXA.out.blk_is (by kernel_rfl) rfl Z35_one ?_; rw [HWb.out]) | (refine wpList_load_midg (by rfl) 28 _ rfl w8.heap.size 0 rfl d2 _ HG1.out Try.underlying28 rfl (by rw [HDL2.out]; kernel_rfl) ?_) | (refine wpList_load_midg (by rfl) 28 _ rfl (w.heap.size + 1) 0 rfl d2 _ HG2.out Try.underlying28 rfl (by rw [HDL2.out]; kernel_rfl) ?_) | (refine wpList_eqlg (by rfl) 28 28 (.tmp 114) (.tmp 115) rfl d2.toArray d2.toArray rfl rfl true (by kernel_rfl) (HEQ2.out _) (some 116) rfl ?_))
        go_ret
        exact ⟨rfl, HSb.out.below⟩
      · have hy : x1 % 256 = y := by rw [← HY.out, if_neg hz0]
        have hzb : (x1 % 256 == 0) = false := by simpa using hz0
        have hyb : (y == 0) = false := by rw [← hy]; exact hzb
        clear hz0
        go_wp2_with (first | (refine wpList_load_midg (by rfl) 28 _ rfl w4.heap.size 0 rfl d2 _ HK1.out Try.underlying28 rfl (by rw [HDL2.out]; kernel_rfl) ?_) | (refine wpList_load_midg (by rfl) 28 _ rfl w5.heap.size 0 rfl d2 _ HK2.out Try.underlying28 rfl (by rw [HDL2.out]; kernel_rfl) ?_) | (refine wpList_neqg (by rfl) 28 28 (.tmp 60) (.tmp 61) rfl d2.toArray d2.toArray rfl rfl false (by kernel_rfl) (HNE2.out _) (some 62) rfl ?_))
        rw [HXX.out]
        refine (super_Newer.st HSX.out HSX.out.row_C.2.2 HSX.out.row_C.2.1 (by decide) HBX.out HSX.out.swap.row_C.2.2 HSX.out.swap.row_C.2.1 (by decide) HBB.out).mono ?_
        rintro e w8 ⟨rfl, hs8⟩
        rw [HRT.out, HRB.out, nOf_b, show ((t, 1, 0) : SupS × Int × Int).1.cells = d2 from HDD2.out, show ((t, 1, 0) : SupS × Int × Int).2.1 = 1 from rfl, show ((t, 1, 0) : SupS × Int × Int).2.2 = 0 from rfl]
        have HX8 := Aside0.mk (hs8.alloc_ Z35 28)
        obtain ⟨w9, hw9⟩ : ∃ W, (w8.alloc (.cells Z35 28)).setRow w8.heap.size d2.toArray = W := ⟨_, rfl⟩
        have hs9 := blk_row_set HX8.out d2.toArray
        rw [hw9] at hs9
        conv at hw9 => lhs; arg 1; unfold Z35
        have HW9 := Aside0.mk hw9
        have HS9 := Aside0.mk hs9
        clear hw9 hs9
        clear hs8 hcell hfro
        go_wp2_with (refine Own.wpList_store_row rfl 28 _ _ rfl w8.heap.size rfl d2.toArray rfl 28 _ HX8.out.blk_is (by rw [List.size_toArray, HDL2.out]; kernel_rfl) (by rw [List.size_toArray, HDL2.out]; rfl) (fun v hv => HDO2.out v (by simpa using hv)) ?_; rw [HW9.out])
        refine (super_Newer.st HS9.out HS9.out.swap.row_C.2.2 HS9.out.swap.row_C.2.1 (by decide) HBX.out (Kd.C_nil _ _) (Nat.le_refl _) (by decide) Bytes.nil).mono ?_
        rintro e wa ⟨rfl, hsa⟩
        rw [HRT.out, read_none, nOf_none, show ((supZ, 0, 27) : SupS × Int × Int).1.cells.toArray = Z35 from rfl, show ((supZ, 0, 27) : SupS × Int × Int).2.1 = 0 from rfl, show ((supZ, 0, 27) : SupS × Int × Int).2.2 = 27 from rfl]
        have HXA := Aside0.mk (hsa.alloc_ Z35 28)
        obtain ⟨wb, hwb⟩ : ∃ W, (wa.alloc (.cells Z35 28)).setRow wa.heap.size Z35 = W := ⟨_, rfl⟩
        have hsb := blk_row_set HXA.out Z35
        rw [hwb] at hsb
        conv at hwb => lhs; arg 1; unfold Z35
        have HWb := Aside0.mk hwb
        have HSb := Aside0.mk hsb
        clear hwb hsb
        have HG1 := Aside0.mk (show wb.rangeAt w8.heap.size 0 d2 from by have := range_all (HSb.out.swap).blk_is; simpa using this)
        have HG2 := Aside0.mk (show wb.rangeAt (w.heap.size + 1) 0 d2 from by have := range_all (HSb.out.front 5).blk_is; simpa using this)
        clear hsa
        go_wp2_with (first | (refine Own.wpList_store_row rfl 28 _ _ rfl wa.heap.size rfl Z35 rfl 28 _ HXA.out.blk_is (by kernel_rfl) rfl Z35_one ?_; rw [HWb.out]) | (refine wpList_load_midg (by rfl) 28 _ rfl w8.heap.size 0 rfl d2 _ HG1.out Try.underlying28 rfl (by rw [HDL2.out]; kernel_rfl) ?_) | (refine wpList_load_midg (by rfl) 28 _ rfl (w.heap.size + 1) 0 rfl d2 _ HG2.out Try.underlying28 rfl (by rw [HDL2.out]; kernel_rfl) ?_) | (refine wpList_eqlg (by rfl) 28 28 (.tmp 114) (.tmp 115) rfl d2.toArray d2.toArray rfl rfl true (by kernel_rfl) (HEQ2.out _) (some 116) rfl ?_))
        go_ret
        exact ⟨rfl, HSb.out.below⟩
  · have hg1 : decide (t.gen > s.gen) = false := decide_eq_false hg
    rw [if_neg hg, show ((s, 0, 0) : SupS × Int × Int).1.cells = d1 from HDD1.out, show ((s, 0, 0) : SupS × Int × Int).2.1 = 0 from rfl, show ((s, 0, 0) : SupS × Int × Int).2.2 = 0 from rfl]
    have HX4 := Aside0.mk (HS4.out.alloc_ Z35 28)
    obtain ⟨w5, hw5⟩ : ∃ W, (w4.alloc (.cells Z35 28)).setRow w4.heap.size d1.toArray = W := ⟨_, rfl⟩
    have hs5 := blk_row_set HX4.out d1.toArray
    rw [hw5] at hs5
    conv at hw5 => lhs; arg 1; unfold Z35
    have HW5 := Aside0.mk hw5
    have HS5 := Aside0.mk hs5
    clear hw5 hs5
    have HX5 := Aside0.mk (HS5.out.alloc_ Z35 28)
    obtain ⟨w6, hw6⟩ : ∃ W, (w5.alloc (.cells Z35 28)).setRow w5.heap.size d1.toArray = W := ⟨_, rfl⟩
    have hs6 := blk_row_set HX5.out d1.toArray
    rw [hw6] at hs6
    conv at hw6 => lhs; arg 1; unfold Z35
    have HW6 := Aside0.mk hw6
    have HS6 := Aside0.mk hs6
    clear hw6 hs6
    have HL1 := Aside0.mk (show w5.rangeAt w.heap.size 0 d1 from by have := range_all (HS5.out.front 5).blk_is; simpa using this)
    obtain ⟨wf, hwf⟩ : ∃ W, w6 = W := ⟨_, rfl⟩
    have hsf := HS6.out
    rw [hwf] at hsf
    rw [hwf] at HW6
    have p2 := (blk_cell (hsf.front 5).blk_is 0).trans (cell0 HDD2.out)
    have p1 := (blk_cell (hsf.front 6).blk_is 0).trans (cell0 HDD1.out)
    clear hwf
    have HK1 := Aside0.mk (show wf.rangeAt w4.heap.size 0 d1 from by have := range_all (hsf.swap).blk_is; simpa using this)
    have HK2 := Aside0.mk (show wf.rangeAt w5.heap.size 0 d1 from by have := range_all hsf.blk_is; simpa using this)
    have HSF := Aside0.mk hsf.drop.drop
    clear hsf
    have q0 := blk_cell (HSF.out.front 2).blk_is 0
    have q1 := blk_cell (HSF.out.front 2).blk_is 1
    go_upto_region 9 with (first | (refine Own.wpList_store_row rfl 28 _ _ rfl w4.heap.size rfl d1.toArray rfl 28 _ HX4.out.blk_is (by rw [List.size_toArray, HDL1.out]; kernel_rfl) (by rw [List.size_toArray, HDL1.out]; rfl) (fun v hv => HDO1.out v (by simpa using hv)) ?_; rw [HW5.out]) | (refine wpList_load_midg (by rfl) 28 _ rfl w.heap.size 0 rfl d1 _ HL1.out Try.underlying28 rfl (by rw [HDL1.out]; kernel_rfl) ?_) | (refine Own.wpList_store_row rfl 28 _ _ rfl w5.heap.size rfl d1.toArray rfl 28 _ HX5.out.blk_is (by rw [List.size_toArray, HDL1.out]; kernel_rfl) (by rw [List.size_toArray, HDL1.out]; rfl) (fun v hv => HDO1.out v (by simpa using hv)) ?_; rw [HW6.out]))
    obtain ⟨i, hi2, hpl⟩ := place_of x0
    obtain ⟨y, hy⟩ : ∃ y, (if x1 % 256 = 0 then (1 : Int) else x1 % 256) = y := ⟨_, rfl⟩
    have HYR := Aside0.mk (show (0 ≤ y ∧ y < 256) ∧ y ≠ 0 from by rw [← hy]; split <;> omega)
    have HY := Aside0.mk hy
    have HPL := Aside0.mk hpl
    clear hy hpl
    obtain ⟨gb, rfl, hcell, hfro, hset⟩ := (HSF.out.swap).row_at i hi2 0
    obtain ⟨z, hz⟩ : ∃ z, la.getD i 0 = z := ⟨_, rfl⟩
    rw [hz] at hcell
    have hil : i < la.length := by rw [HWO.out.2.2.1]; exact hi2
    have hzz : la[i] = z := by rw [← hz, List.getD_eq_getElem?_getD, List.getElem?_eq_getElem hil]; rfl
    have hzr := HBA.out _ (List.getElem_mem hil)
    rw [hzz] at hzr
    obtain ⟨x, hx⟩ : ∃ x, Go.bits .xor .u8 z y = x := ⟨_, rfl⟩
    have ht := turned_ne z y hzr HYR.out.1 HYR.out.2
    rw [hx] at ht
    have HSX := Aside0.mk (hset x)
    have HRT := Aside0.mk (show readR (la.set i x) 0 = none from read_turned HLS.out HWR1.out 0 i hil x ht.1 (by rw [hzz]; exact ht.2))
    have HBX := Aside0.mk (show Bytes (la.set i x) from fun u hu => by
      rcases List.mem_or_eq_of_mem_set hu with h | h
      · exact HBA.out u h
      · rw [h]; exact ht.1)
    have l1 : (i : Int) < 256 := by omega
    have HXX := Aside0.mk hx
    clear hset hz hil hzz hzr ht hi2 hx HYR
    rcases HPL.out with ⟨h1, h2⟩ | ⟨h1, h2⟩
    · have h3 : decide (Int.tmod x0 256 < 0) = true := decide_eq_true h1
      by_cases hz0 : x1 % 256 = 0
      · obtain rfl : (1 : Int) = y := by rw [← HY.out, if_pos hz0]
        have hzb : (x1 % 256 == 0) = true := by simpa using hz0
        clear hz0
        go_wp2_with (first | (refine wpList_load_midg (by rfl) 28 _ rfl w4.heap.size 0 rfl d1 _ HK1.out Try.underlying28 rfl (by rw [HDL1.out]; kernel_rfl) ?_) | (refine wpList_load_midg (by rfl) 28 _ rfl w5.heap.size 0 rfl d1 _ HK2.out Try.underlying28 rfl (by rw [HDL1.out]; kernel_rfl) ?_) | (refine wpList_neqg (by rfl) 28 28 (.tmp 60) (.tmp 61) rfl d1.toArray d1.toArray rfl rfl false (by kernel_rfl) (HNE1.out _) (some 62) rfl ?_))
        rw [HXX.out]
        refine (super_Newer.st HSX.out HSX.out.row_C.2.2 HSX.out.row_C.2.1 (by decide) HBX.out HSX.out.swap.row_C.2.2 HSX.out.swap.row_C.2.1 (by decide) HBB.out).mono ?_
        rintro e w8 ⟨rfl, hs8⟩
        rw [HRT.out, HRB.out, nOf_b, show ((t, 1, 0) : SupS × Int × Int).1.cells = d2 from HDD2.out, show ((t, 1, 0) : SupS × Int × Int).2.1 = 1 from rfl, show ((t, 1, 0) : SupS × Int × Int).2.2 = 0 from rfl]
        have HX8 := Aside0.mk (hs8.alloc_ Z35 28)
        obtain ⟨w9, hw9⟩ : ∃ W, (w8.alloc (.cells Z35 28)).setRow w8.heap.size d2.toArray = W := ⟨_, rfl⟩
        have hs9 := blk_row_set HX8.out d2.toArray
        rw [hw9] at hs9
        conv at hw9 => lhs; arg 1; unfold Z35
        have HW9 := Aside0.mk hw9
        have HS9 := Aside0.mk hs9
        clear hw9 hs9
        clear hs8 hcell hfro
        go_wp2_with (refine Own.wpList_store_row rfl 28 _ _ rfl w8.heap.size rfl d2.toArray rfl 28 _ HX8.out.blk_is (by rw [List.size_toArray, HDL2.out]; kernel_rfl) (by rw [List.size_toArray, HDL2.out]; rfl) (fun v hv => HDO2.out v (by simpa using hv)) ?_; rw [HW9.out])
        refine (super_Newer.st HS9.out HS9.out.swap.row_C.2.2 HS9.out.swap.row_C.2.1 (by decide) HBX.out (Kd.C_nil _ _) (Nat.le_refl _) (by decide) Bytes.nil).mono ?_
        rintro e wa ⟨rfl, hsa⟩
        rw [HRT.out, read_none, nOf_none, show ((supZ, 0, 27) : SupS × Int × Int).1.cells.toArray = Z35 from rfl, show ((supZ, 0, 27) : SupS × Int × Int).2.1 = 0 from rfl, show ((supZ, 0, 27) : SupS × Int × Int).2.2 = 27 from rfl]
        have HXA := Aside0.mk (hsa.alloc_ Z35 28)
        obtain ⟨wb, hwb⟩ : ∃ W, (wa.alloc (.cells Z35 28)).setRow wa.heap.size Z35 = W := ⟨_, rfl⟩
        have hsb := blk_row_set HXA.out Z35
        rw [hwb] at hsb
        conv at hwb => lhs; arg 1; unfold Z35
        have HWb := Aside0.mk hwb
        have HSb := Aside0.mk hsb
        clear hwb hsb
        have HG1 := Aside0.mk (show wb.rangeAt w8.heap.size 0 d2 from by have := range_all (HSb.out.swap).blk_is; simpa using this)
        have HG2 := Aside0.mk (show wb.rangeAt (w.heap.size + 1) 0 d2 from by have := range_all (HSb.out.front 5).blk_is; simpa using this)
        clear hsa
        go_wp2_with (first | (refine Own.wpList_store_row rfl 28 _ _ rfl wa.heap.size rfl Z35 rfl 28 _ HXA.out.blk_is (by kernel_rfl) rfl Z35_one ?_; rw [HWb.out]) | (refine wpList_load_midg (by rfl) 28 _ rfl w8.heap.size 0 rfl d2 _ HG1.out Try.underlying28 rfl (by rw [HDL2.out]; kernel_rfl) ?_) | (refine wpList_load_midg (by rfl) 28 _ rfl (w.heap.size + 1) 0 rfl d2 _ HG2.out Try.underlying28 rfl (by rw [HDL2.out]; kernel_rfl) ?_) | (refine wpList_eqlg (by rfl) 28 28 (.tmp 114) (.tmp 115) rfl d2.toArray d2.toArray rfl rfl true (by kernel_rfl) (HEQ2.out _) (some 116) rfl ?_))
        go_ret
        exact ⟨rfl, HSb.out.below⟩
      · have hy : x1 % 256 = y := by rw [← HY.out, if_neg hz0]
        have hzb : (x1 % 256 == 0) = false := by simpa using hz0
        have hyb : (y == 0) = false := by rw [← hy]; exact hzb
        clear hz0
        go_wp2_with (first | (refine wpList_load_midg (by rfl) 28 _ rfl w4.heap.size 0 rfl d1 _ HK1.out Try.underlying28 rfl (by rw [HDL1.out]; kernel_rfl) ?_) | (refine wpList_load_midg (by rfl) 28 _ rfl w5.heap.size 0 rfl d1 _ HK2.out Try.underlying28 rfl (by rw [HDL1.out]; kernel_rfl) ?_) | (refine wpList_neqg (by rfl) 28 28 (.tmp 60) (.tmp 61) rfl d1.toArray d1.toArray rfl rfl false (by kernel_rfl) (HNE1.out _) (some 62) rfl ?_))
        rw [HXX.out]
        refine (super_Newer.st HSX.out HSX.out.row_C.2.2 HSX.out.row_C.2.1 (by decide) HBX.out HSX.out.swap.row_C.2.2 HSX.out.swap.row_C.2.1 (by decide) HBB.out).mono ?_
        rintro e w8 ⟨rfl, hs8⟩
        rw [HRT.out, HRB.out, nOf_b, show ((t, 1, 0) : SupS × Int × Int).1.cells = d2 from HDD2.out, show ((t, 1, 0) : SupS × Int × Int).2.1 = 1 from rfl, show ((t, 1, 0) : SupS × Int × Int).2.2 = 0 from rfl]
        have HX8 := Aside0.mk (hs8.alloc_ Z35 28)
        obtain ⟨w9, hw9⟩ : ∃ W, (w8.alloc (.cells Z35 28)).setRow w8.heap.size d2.toArray = W := ⟨_, rfl⟩
        have hs9 := blk_row_set HX8.out d2.toArray
        rw [hw9] at hs9
        conv at hw9 => lhs; arg 1; unfold Z35
        have HW9 := Aside0.mk hw9
        have HS9 := Aside0.mk hs9
        clear hw9 hs9
        clear hs8 hcell hfro
        go_wp2_with (refine Own.wpList_store_row rfl 28 _ _ rfl w8.heap.size rfl d2.toArray rfl 28 _ HX8.out.blk_is (by rw [List.size_toArray, HDL2.out]; kernel_rfl) (by rw [List.size_toArray, HDL2.out]; rfl) (fun v hv => HDO2.out v (by simpa using hv)) ?_; rw [HW9.out])
        refine (super_Newer.st HS9.out HS9.out.swap.row_C.2.2 HS9.out.swap.row_C.2.1 (by decide) HBX.out (Kd.C_nil _ _) (Nat.le_refl _) (by decide) Bytes.nil).mono ?_
        rintro e wa ⟨rfl, hsa⟩
        rw [HRT.out, read_none, nOf_none, show ((supZ, 0, 27) : SupS × Int × Int).1.cells.toArray = Z35 from rfl, show ((supZ, 0, 27) : SupS × Int × Int).2.1 = 0 from rfl, show ((supZ, 0, 27) : SupS × Int × Int).2.2 = 27 from rfl]
        have HXA := Aside0.mk (hsa.alloc_ Z35 28)
        obtain ⟨wb, hwb⟩ : ∃ W, (wa.alloc (.cells Z35 28)).setRow wa.heap.size Z35 = W := ⟨_, rfl⟩
        have hsb := blk_row_set HXA.out Z35
        rw [hwb] at hsb
        conv at hwb => lhs; arg 1; unfold Z35
        have HWb := Aside0.mk hwb
        have HSb := Aside0.mk hsb
        clear hwb hsb
        have HG1 := Aside0.mk (show wb.rangeAt w8.heap.size 0 d2 from by have := range_all (HSb.out.swap).blk_is; simpa using this)
        have HG2 := Aside0.mk (show wb.rangeAt (w.heap.size + 1) 0 d2 from by have := range_all (HSb.out.front 5).blk_is; simpa using this)
        clear hsa
        go_wp2_with (first | (refine Own.wpList_store_row rfl 28 _ _ rfl wa.heap.size rfl Z35 rfl 28 _ HXA.out.blk_is (by kernel_rfl) rfl Z35_one ?_; rw [HWb.out]) | (refine wpList_load_midg (by rfl) 28 _ rfl w8.heap.size 0 rfl d2 _ HG1.out Try.underlying28 rfl (by rw [HDL2.out]; kernel_rfl) ?_) | (refine wpList_load_midg (by rfl) 28 _ rfl (w.heap.size + 1) 0 rfl d2 _ HG2.out Try.underlying28 rfl (by rw [HDL2.out]; kernel_rfl) ?_) | (refine wpList_eqlg (by rfl) 28 28 (.tmp 114) (.tmp 115) rfl d2.toArray d2.toArray rfl rfl true (by kernel_rfl) (HEQ2.out _) (some 116) rfl ?_))
        go_ret
        exact ⟨rfl, HSb.out.below⟩
    · have h3 : decide (Int.tmod x0 256 < 0) = false := decide_eq_false h1
      by_cases hz0 : x1 % 256 = 0
      · obtain rfl : (1 : Int) = y := by rw [← HY.out, if_pos hz0]
        have hzb : (x1 % 256 == 0) = true := by simpa using hz0
        clear hz0
        go_wp2_with (first | (refine wpList_load_midg (by rfl) 28 _ rfl w4.heap.size 0 rfl d1 _ HK1.out Try.underlying28 rfl (by rw [HDL1.out]; kernel_rfl) ?_) | (refine wpList_load_midg (by rfl) 28 _ rfl w5.heap.size 0 rfl d1 _ HK2.out Try.underlying28 rfl (by rw [HDL1.out]; kernel_rfl) ?_) | (refine wpList_neqg (by rfl) 28 28 (.tmp 60) (.tmp 61) rfl d1.toArray d1.toArray rfl rfl false (by kernel_rfl) (HNE1.out _) (some 62) rfl ?_))
        rw [HXX.out]
        refine (super_Newer.st HSX.out HSX.out.row_C.2.2 HSX.out.row_C.2.1 (by decide) HBX.out HSX.out.swap.row_C.2.2 HSX.out.swap.row_C.2.1 (by decide) HBB.out).mono ?_
        rintro e w8 ⟨rfl, hs8⟩
        rw [HRT.out, HRB.out, nOf_b, show ((t, 1, 0) : SupS × Int × Int).1.cells = d2 from HDD2.out, show ((t, 1, 0) : SupS × Int × Int).2.1 = 1 from rfl, show ((t, 1, 0) : SupS × Int × Int).2.2 = 0 from rfl]
        have HX8 := Aside0.mk (hs8.alloc_ Z35 28)
        obtain ⟨w9, hw9⟩ : ∃ W, (w8.alloc (.cells Z35 28)).setRow w8.heap.size d2.toArray = W := ⟨_, rfl⟩
        have hs9 := blk_row_set HX8.out d2.toArray
        rw [hw9] at hs9
        conv at hw9 => lhs; arg 1; unfold Z35
        have HW9 := Aside0.mk hw9
        have HS9 := Aside0.mk hs9
        clear hw9 hs9
        clear hs8 hcell hfro
        go_wp2_with (refine Own.wpList_store_row rfl 28 _ _ rfl w8.heap.size rfl d2.toArray rfl 28 _ HX8.out.blk_is (by rw [List.size_toArray, HDL2.out]; kernel_rfl) (by rw [List.size_toArray, HDL2.out]; rfl) (fun v hv => HDO2.out v (by simpa using hv)) ?_; rw [HW9.out])
        refine (super_Newer.st HS9.out HS9.out.swap.row_C.2.2 HS9.out.swap.row_C.2.1 (by decide) HBX.out (Kd.C_nil _ _) (Nat.le_refl _) (by decide) Bytes.nil).mono ?_
        rintro e wa ⟨rfl, hsa⟩
        rw [HRT.out, read_none, nOf_none, show ((supZ, 0, 27) : SupS × Int × Int).1.cells.toArray = Z35 from rfl, show ((supZ, 0, 27) : SupS × Int × Int).2.1 = 0 from rfl, show ((supZ, 0, 27) : SupS × Int × Int).2.2 = 27 from rfl]
        have HXA := Aside0.mk (hsa.alloc_ Z35 28)
        obtain ⟨wb, hwb⟩ : ∃ W, (wa.alloc (.cells Z35 28)).setRow wa.heap.size Z35 = W := ⟨_, rfl⟩
        have hsb := blk_row_set HXA.out Z35
        rw [hwb] at hsb
        conv at hwb => lhs; arg 1; unfold Z35
        have HWb := Aside0.mk hwb
        have HSb := Aside0.mk hsb
        clear hwb hsb
        have HG1 := Aside0.mk (show wb.rangeAt w8.heap.size 0 d2 from by have := range_all (HSb.out.swap).blk_is; simpa using this)
        have HG2 := Aside0.mk (show wb.rangeAt (w.heap.size + 1) 0 d2 from by have := range_all (HSb.out.front 5).blk_is; simpa using this)
        clear hsa
        go_wp2_with (first | (refine Own.wpList_store_row rfl 28 _ _ rfl wa.heap.size rfl Z35 rfl 28 _ HXA.out.blk_is (by kernel_rfl) rfl Z35_one ?_; rw [HWb.out]) | (refine wpList_load_midg (by rfl) 28 _ rfl w8.heap.size 0 rfl d2 _ HG1.out Try.underlying28 rfl (by rw [HDL2.out]; kernel_rfl) ?_) | (refine wpList_load_midg (by rfl) 28 _ rfl (w.heap.size + 1) 0 rfl d2 _ HG2.out Try.underlying28 rfl (by rw [HDL2.out]; kernel_rfl) ?_) | (refine wpList_eqlg (by rfl) 28 28 (.tmp 114) (.tmp 115) rfl d2.toArray d2.toArray rfl rfl true (by kernel_rfl) (HEQ2.out _) (some 116) rfl ?_))
        go_ret
        exact ⟨rfl, HSb.out.below⟩
      · have hy : x1 % 256 = y := by rw [← HY.out, if_neg hz0]
        have hzb : (x1 % 256 == 0) = false := by simpa using hz0
        have hyb : (y == 0) = false := by rw [← hy]; exact hzb
        clear hz0
        go_wp2_with (first | (refine wpList_load_midg (by rfl) 28 _ rfl w4.heap.size 0 rfl d1 _ HK1.out Try.underlying28 rfl (by rw [HDL1.out]; kernel_rfl) ?_) | (refine wpList_load_midg (by rfl) 28 _ rfl w5.heap.size 0 rfl d1 _ HK2.out Try.underlying28 rfl (by rw [HDL1.out]; kernel_rfl) ?_) | (refine wpList_neqg (by rfl) 28 28 (.tmp 60) (.tmp 61) rfl d1.toArray d1.toArray rfl rfl false (by kernel_rfl) (HNE1.out _) (some 62) rfl ?_))
        rw [HXX.out]
        refine (super_Newer.st HSX.out HSX.out.row_C.2.2 HSX.out.row_C.2.1 (by decide) HBX.out HSX.out.swap.row_C.2.2 HSX.out.swap.row_C.2.1 (by decide) HBB.out).mono ?_
        rintro e w8 ⟨rfl, hs8⟩
        rw [HRT.out, HRB.out, nOf_b, show ((t, 1, 0) : SupS × Int × Int).1.cells = d2 from HDD2.out, show ((t, 1, 0) : SupS × Int × Int).2.1 = 1 from rfl, show ((t, 1, 0) : SupS × Int × Int).2.2 = 0 from rfl]
        have HX8 := Aside0.mk (hs8.alloc_ Z35 28)
        obtain ⟨w9, hw9⟩ : ∃ W, (w8.alloc (.cells Z35 28)).setRow w8.heap.size d2.toArray = W := ⟨_, rfl⟩
        have hs9 := blk_row_set HX8.out d2.toArray
        rw [hw9] at hs9
        conv at hw9 => lhs; arg 1; unfold Z35
        have HW9 := Aside0.mk hw9
        have HS9 := Aside0.mk hs9
        clear hw9 hs9
        clear hs8 hcell hfro
        go_wp2_with (refine Own.wpList_store_row rfl 28 _ _ rfl w8.heap.size rfl d2.toArray rfl 28 _ HX8.out.blk_is (by rw [List.size_toArray, HDL2.out]; kernel_rfl) (by rw [List.size_toArray, HDL2.out]; rfl) (fun v hv => HDO2.out v (by simpa using hv)) ?_; rw [HW9.out])
        refine (super_Newer.st HS9.out HS9.out.swap.row_C.2.2 HS9.out.swap.row_C.2.1 (by decide) HBX.out (Kd.C_nil _ _) (Nat.le_refl _) (by decide) Bytes.nil).mono ?_
        rintro e wa ⟨rfl, hsa⟩
        rw [HRT.out, read_none, nOf_none, show ((supZ, 0, 27) : SupS × Int × Int).1.cells.toArray = Z35 from rfl, show ((supZ, 0, 27) : SupS × Int × Int).2.1 = 0 from rfl, show ((supZ, 0, 27) : SupS × Int × Int).2.2 = 27 from rfl]
        have HXA := Aside0.mk (hsa.alloc_ Z35 28)
        obtain ⟨wb, hwb⟩ : ∃ W, (wa.alloc (.cells Z35 28)).setRow wa.heap.size Z35 = W := ⟨_, rfl⟩
        have hsb := blk_row_set HXA.out Z35
        rw [hwb] at hsb
        conv at hwb => lhs; arg 1; unfold Z35
        have HWb := Aside0.mk hwb
        have HSb := Aside0.mk hsb
        clear hwb hsb
        have HG1 := Aside0.mk (show wb.rangeAt w8.heap.size 0 d2 from by have := range_all (HSb.out.swap).blk_is; simpa using this)
        have HG2 := Aside0.mk (show wb.rangeAt (w.heap.size + 1) 0 d2 from by have := range_all (HSb.out.front 5).blk_is; simpa using this)
        clear hsa
        go_wp2_with (first | (refine Own.wpList_store_row rfl 28 _ _ rfl wa.heap.size rfl Z35 rfl 28 _ HXA.out.blk_is (by kernel_rfl) rfl Z35_one ?_; rw [HWb.out]) | (refine wpList_load_midg (by rfl) 28 _ rfl w8.heap.size 0 rfl d2 _ HG1.out Try.underlying28 rfl (by rw [HDL2.out]; kernel_rfl) ?_) | (refine wpList_load_midg (by rfl) 28 _ rfl (w.heap.size + 1) 0 rfl d2 _ HG2.out Try.underlying28 rfl (by rw [HDL2.out]; kernel_rfl) ?_) | (refine wpList_eqlg (by rfl) 28 28 (.tmp 114) (.tmp 115) rfl d2.toArray d2.toArray rfl rfl true (by kernel_rfl) (HEQ2.out _) (some 116) rfl ?_))
        go_ret
        exact ⟨rfl, HSb.out.below⟩
theorem SuperChooses_law (z0f0_n : Int) (z0f1_n : Int) (z0f2_n : Int) (z0f3_f0_f0_n : ByteArray) (z0f3_f0_f1_n : Bool) (z0f3_f0_f2_n : Int) (z0f3_f0_f3_n : Int) (z0f3_f1_f0_n : ByteArray) (z0f3_f1_f1_n : Bool) (z0f3_f1_f2_n : Int) (z0f3_f1_f3_n : Int) (z0f3_f2_f0_n : ByteArray) (z0f3_f2_f1_n : Bool) (z0f3_f2_f2_n : Int) (z0f3_f2_f3_n : Int) (z0f3_f3_f0_n : ByteArray) (z0f3_f3_f1_n : Bool) (z0f3_f3_f2_n : Int) (z0f3_f3_f3_n : Int) (z0f3_f4_f0_n : ByteArray) (z0f3_f4_f1_n : Bool) (z0f3_f4_f2_n : Int) (z0f3_f4_f3_n : Int) (z0f3_f5_f0_n : ByteArray) (z0f3_f5_f1_n : Bool) (z0f3_f5_f2_n : Int) (z0f3_f5_f3_n : Int) (z0f3_f6_f0_n : ByteArray) (z0f3_f6_f1_n : Bool) (z0f3_f6_f2_n : Int) (z0f3_f6_f3_n : Int) (z0f3_f7_f0_n : ByteArray) (z0f3_f7_f1_n : Bool) (z0f3_f7_f2_n : Int) (z0f3_f7_f3_n : Int) (z1f0_n : Int) (z1f1_n : Int) (z1f2_n : Int) (z1f3_f0_f0_n : ByteArray) (z1f3_f0_f1_n : Bool) (z1f3_f0_f2_n : Int) (z1f3_f0_f3_n : Int) (z1f3_f1_f0_n : ByteArray) (z1f3_f1_f1_n : Bool) (z1f3_f1_f2_n : Int) (z1f3_f1_f3_n : Int) (z1f3_f2_f0_n : ByteArray) (z1f3_f2_f1_n : Bool) (z1f3_f2_f2_n : Int) (z1f3_f2_f3_n : Int) (z1f3_f3_f0_n : ByteArray) (z1f3_f3_f1_n : Bool) (z1f3_f3_f2_n : Int) (z1f3_f3_f3_n : Int) (z1f3_f4_f0_n : ByteArray) (z1f3_f4_f1_n : Bool) (z1f3_f4_f2_n : Int) (z1f3_f4_f3_n : Int) (z1f3_f5_f0_n : ByteArray) (z1f3_f5_f1_n : Bool) (z1f3_f5_f2_n : Int) (z1f3_f5_f3_n : Int) (z1f3_f6_f0_n : ByteArray) (z1f3_f6_f1_n : Bool) (z1f3_f6_f2_n : Int) (z1f3_f6_f3_n : Int) (z1f3_f7_f0_n : ByteArray) (z1f3_f7_f1_n : Bool) (z1f3_f7_f2_n : Int) (z1f3_f7_f3_n : Int) (z2f0_n : Int) (z2f1_n : Int) (w : World) (h0 : Aside0 ((Lit.int .i64 z0f0_n).wf = true ∧ (Lit.int .i64 z0f1_n).wf = true ∧ (Lit.int .i64 z0f2_n).wf = true ∧ z0f3_f0_f0_n.size ≤ maxLen ∧ True ∧ (Lit.int .i64 z0f3_f0_f2_n).wf = true ∧ (Lit.int .i64 z0f3_f0_f3_n).wf = true ∧ z0f3_f1_f0_n.size ≤ maxLen ∧ True ∧ (Lit.int .i64 z0f3_f1_f2_n).wf = true ∧ (Lit.int .i64 z0f3_f1_f3_n).wf = true ∧ z0f3_f2_f0_n.size ≤ maxLen ∧ True ∧ (Lit.int .i64 z0f3_f2_f2_n).wf = true ∧ (Lit.int .i64 z0f3_f2_f3_n).wf = true ∧ z0f3_f3_f0_n.size ≤ maxLen ∧ True ∧ (Lit.int .i64 z0f3_f3_f2_n).wf = true ∧ (Lit.int .i64 z0f3_f3_f3_n).wf = true ∧ z0f3_f4_f0_n.size ≤ maxLen ∧ True ∧ (Lit.int .i64 z0f3_f4_f2_n).wf = true ∧ (Lit.int .i64 z0f3_f4_f3_n).wf = true ∧ z0f3_f5_f0_n.size ≤ maxLen ∧ True ∧ (Lit.int .i64 z0f3_f5_f2_n).wf = true ∧ (Lit.int .i64 z0f3_f5_f3_n).wf = true ∧ z0f3_f6_f0_n.size ≤ maxLen ∧ True ∧ (Lit.int .i64 z0f3_f6_f2_n).wf = true ∧ (Lit.int .i64 z0f3_f6_f3_n).wf = true ∧ z0f3_f7_f0_n.size ≤ maxLen ∧ True ∧ (Lit.int .i64 z0f3_f7_f2_n).wf = true ∧ (Lit.int .i64 z0f3_f7_f3_n).wf = true)) (h1 : Aside0 ((Lit.int .i64 z1f0_n).wf = true ∧ (Lit.int .i64 z1f1_n).wf = true ∧ (Lit.int .i64 z1f2_n).wf = true ∧ z1f3_f0_f0_n.size ≤ maxLen ∧ True ∧ (Lit.int .i64 z1f3_f0_f2_n).wf = true ∧ (Lit.int .i64 z1f3_f0_f3_n).wf = true ∧ z1f3_f1_f0_n.size ≤ maxLen ∧ True ∧ (Lit.int .i64 z1f3_f1_f2_n).wf = true ∧ (Lit.int .i64 z1f3_f1_f3_n).wf = true ∧ z1f3_f2_f0_n.size ≤ maxLen ∧ True ∧ (Lit.int .i64 z1f3_f2_f2_n).wf = true ∧ (Lit.int .i64 z1f3_f2_f3_n).wf = true ∧ z1f3_f3_f0_n.size ≤ maxLen ∧ True ∧ (Lit.int .i64 z1f3_f3_f2_n).wf = true ∧ (Lit.int .i64 z1f3_f3_f3_n).wf = true ∧ z1f3_f4_f0_n.size ≤ maxLen ∧ True ∧ (Lit.int .i64 z1f3_f4_f2_n).wf = true ∧ (Lit.int .i64 z1f3_f4_f3_n).wf = true ∧ z1f3_f5_f0_n.size ≤ maxLen ∧ True ∧ (Lit.int .i64 z1f3_f5_f2_n).wf = true ∧ (Lit.int .i64 z1f3_f5_f3_n).wf = true ∧ z1f3_f6_f0_n.size ≤ maxLen ∧ True ∧ (Lit.int .i64 z1f3_f6_f2_n).wf = true ∧ (Lit.int .i64 z1f3_f6_f3_n).wf = true ∧ z1f3_f7_f0_n.size ≤ maxLen ∧ True ∧ (Lit.int .i64 z1f3_f7_f2_n).wf = true ∧ (Lit.int .i64 z1f3_f7_f3_n).wf = true)) (h2 : Aside0 ((Lit.int .i64 z2f0_n).wf = true ∧ (Lit.int .i64 z2f1_n).wf = true)) :
    Calls Try.prog 9 #[.agg #[.int .i64 z0f0_n, .int .i64 z0f1_n, .int .i64 z0f2_n, .string z0f3_f0_f0_n, .bool z0f3_f0_f1_n, .int .i64 z0f3_f0_f2_n, .int .i64 z0f3_f0_f3_n, .string z0f3_f1_f0_n, .bool z0f3_f1_f1_n, .int .i64 z0f3_f1_f2_n, .int .i64 z0f3_f1_f3_n, .string z0f3_f2_f0_n, .bool z0f3_f2_f1_n, .int .i64 z0f3_f2_f2_n, .int .i64 z0f3_f2_f3_n, .string z0f3_f3_f0_n, .bool z0f3_f3_f1_n, .int .i64 z0f3_f3_f2_n, .int .i64 z0f3_f3_f3_n, .string z0f3_f4_f0_n, .bool z0f3_f4_f1_n, .int .i64 z0f3_f4_f2_n, .int .i64 z0f3_f4_f3_n, .string z0f3_f5_f0_n, .bool z0f3_f5_f1_n, .int .i64 z0f3_f5_f2_n, .int .i64 z0f3_f5_f3_n, .string z0f3_f6_f0_n, .bool z0f3_f6_f1_n, .int .i64 z0f3_f6_f2_n, .int .i64 z0f3_f6_f3_n, .string z0f3_f7_f0_n, .bool z0f3_f7_f1_n, .int .i64 z0f3_f7_f2_n, .int .i64 z0f3_f7_f3_n], .agg #[.int .i64 z1f0_n, .int .i64 z1f1_n, .int .i64 z1f2_n, .string z1f3_f0_f0_n, .bool z1f3_f0_f1_n, .int .i64 z1f3_f0_f2_n, .int .i64 z1f3_f0_f3_n, .string z1f3_f1_f0_n, .bool z1f3_f1_f1_n, .int .i64 z1f3_f1_f2_n, .int .i64 z1f3_f1_f3_n, .string z1f3_f2_f0_n, .bool z1f3_f2_f1_n, .int .i64 z1f3_f2_f2_n, .int .i64 z1f3_f2_f3_n, .string z1f3_f3_f0_n, .bool z1f3_f3_f1_n, .int .i64 z1f3_f3_f2_n, .int .i64 z1f3_f3_f3_n, .string z1f3_f4_f0_n, .bool z1f3_f4_f1_n, .int .i64 z1f3_f4_f2_n, .int .i64 z1f3_f4_f3_n, .string z1f3_f5_f0_n, .bool z1f3_f5_f1_n, .int .i64 z1f3_f5_f2_n, .int .i64 z1f3_f5_f3_n, .string z1f3_f6_f0_n, .bool z1f3_f6_f1_n, .int .i64 z1f3_f6_f2_n, .int .i64 z1f3_f6_f3_n, .string z1f3_f7_f0_n, .bool z1f3_f7_f1_n, .int .i64 z1f3_f7_f2_n, .int .i64 z1f3_f7_f3_n], .agg #[.int .i64 z2f0_n, .int .i64 z2f1_n]] w fun e w' => e = .returned (.bool true) ∧ Below w.heap.size w w' := by
  have hn0 : ∀ v ∈ (⟨z0f0_n, z0f1_n, z0f2_n, [⟨z0f3_f0_f0_n, z0f3_f0_f1_n, z0f3_f0_f2_n, z0f3_f0_f3_n⟩, ⟨z0f3_f1_f0_n, z0f3_f1_f1_n, z0f3_f1_f2_n, z0f3_f1_f3_n⟩, ⟨z0f3_f2_f0_n, z0f3_f2_f1_n, z0f3_f2_f2_n, z0f3_f2_f3_n⟩, ⟨z0f3_f3_f0_n, z0f3_f3_f1_n, z0f3_f3_f2_n, z0f3_f3_f3_n⟩, ⟨z0f3_f4_f0_n, z0f3_f4_f1_n, z0f3_f4_f2_n, z0f3_f4_f3_n⟩, ⟨z0f3_f5_f0_n, z0f3_f5_f1_n, z0f3_f5_f2_n, z0f3_f5_f3_n⟩, ⟨z0f3_f6_f0_n, z0f3_f6_f1_n, z0f3_f6_f2_n, z0f3_f6_f3_n⟩, ⟨z0f3_f7_f0_n, z0f3_f7_f1_n, z0f3_f7_f2_n, z0f3_f7_f3_n⟩]⟩ : SupS).vols, v.name.size ≤ 9223372036854775807 := by
    obtain ⟨_, _, _, n0, _, _, _, n1, _, _, _, n2, _, _, _, n3, _, _, _, n4, _, _, _, n5, _, _, _, n6, _, _, _, n7, _, _, _⟩ := h0.out
    intro v hv
    simp only [List.mem_cons, List.not_mem_nil, or_false] at hv
    rcases hv with rfl | rfl | rfl | rfl | rfl | rfl | rfl | rfl
    · exact n0
    · exact n1
    · exact n2
    · exact n3
    · exact n4
    · exact n5
    · exact n6
    · exact n7
  have hn1 : ∀ v ∈ (⟨z1f0_n, z1f1_n, z1f2_n, [⟨z1f3_f0_f0_n, z1f3_f0_f1_n, z1f3_f0_f2_n, z1f3_f0_f3_n⟩, ⟨z1f3_f1_f0_n, z1f3_f1_f1_n, z1f3_f1_f2_n, z1f3_f1_f3_n⟩, ⟨z1f3_f2_f0_n, z1f3_f2_f1_n, z1f3_f2_f2_n, z1f3_f2_f3_n⟩, ⟨z1f3_f3_f0_n, z1f3_f3_f1_n, z1f3_f3_f2_n, z1f3_f3_f3_n⟩, ⟨z1f3_f4_f0_n, z1f3_f4_f1_n, z1f3_f4_f2_n, z1f3_f4_f3_n⟩, ⟨z1f3_f5_f0_n, z1f3_f5_f1_n, z1f3_f5_f2_n, z1f3_f5_f3_n⟩, ⟨z1f3_f6_f0_n, z1f3_f6_f1_n, z1f3_f6_f2_n, z1f3_f6_f3_n⟩, ⟨z1f3_f7_f0_n, z1f3_f7_f1_n, z1f3_f7_f2_n, z1f3_f7_f3_n⟩]⟩ : SupS).vols, v.name.size ≤ 9223372036854775807 := by
    obtain ⟨_, _, _, n0, _, _, _, n1, _, _, _, n2, _, _, _, n3, _, _, _, n4, _, _, _, n5, _, _, _, n6, _, _, _, n7, _, _, _⟩ := h1.out
    intro v hv
    simp only [List.mem_cons, List.not_mem_nil, or_false] at hv
    rcases hv with rfl | rfl | rfl | rfl | rfl | rfl | rfl | rfl
    · exact n0
    · exact n1
    · exact n2
    · exact n3
    · exact n4
    · exact n5
    · exact n6
    · exact n7
  exact law_chooses (⟨z0f0_n, z0f1_n, z0f2_n, [⟨z0f3_f0_f0_n, z0f3_f0_f1_n, z0f3_f0_f2_n, z0f3_f0_f3_n⟩, ⟨z0f3_f1_f0_n, z0f3_f1_f1_n, z0f3_f1_f2_n, z0f3_f1_f3_n⟩, ⟨z0f3_f2_f0_n, z0f3_f2_f1_n, z0f3_f2_f2_n, z0f3_f2_f3_n⟩, ⟨z0f3_f3_f0_n, z0f3_f3_f1_n, z0f3_f3_f2_n, z0f3_f3_f3_n⟩, ⟨z0f3_f4_f0_n, z0f3_f4_f1_n, z0f3_f4_f2_n, z0f3_f4_f3_n⟩, ⟨z0f3_f5_f0_n, z0f3_f5_f1_n, z0f3_f5_f2_n, z0f3_f5_f3_n⟩, ⟨z0f3_f6_f0_n, z0f3_f6_f1_n, z0f3_f6_f2_n, z0f3_f6_f3_n⟩, ⟨z0f3_f7_f0_n, z0f3_f7_f1_n, z0f3_f7_f2_n, z0f3_f7_f3_n⟩]⟩ : SupS) rfl hn0 (⟨z1f0_n, z1f1_n, z1f2_n, [⟨z1f3_f0_f0_n, z1f3_f0_f1_n, z1f3_f0_f2_n, z1f3_f0_f3_n⟩, ⟨z1f3_f1_f0_n, z1f3_f1_f1_n, z1f3_f1_f2_n, z1f3_f1_f3_n⟩, ⟨z1f3_f2_f0_n, z1f3_f2_f1_n, z1f3_f2_f2_n, z1f3_f2_f3_n⟩, ⟨z1f3_f3_f0_n, z1f3_f3_f1_n, z1f3_f3_f2_n, z1f3_f3_f3_n⟩, ⟨z1f3_f4_f0_n, z1f3_f4_f1_n, z1f3_f4_f2_n, z1f3_f4_f3_n⟩, ⟨z1f3_f5_f0_n, z1f3_f5_f1_n, z1f3_f5_f2_n, z1f3_f5_f3_n⟩, ⟨z1f3_f6_f0_n, z1f3_f6_f1_n, z1f3_f6_f2_n, z1f3_f6_f3_n⟩, ⟨z1f3_f7_f0_n, z1f3_f7_f1_n, z1f3_f7_f2_n, z1f3_f7_f3_n⟩]⟩ : SupS) rfl hn1 z2f0_n z2f1_n w

end Go.Proofs.Ytjpebckmjlmkmaa.P
