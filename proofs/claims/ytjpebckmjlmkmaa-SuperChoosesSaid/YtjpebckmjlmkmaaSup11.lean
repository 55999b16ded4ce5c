/- A superblock is read: the document's function, walked. -/
import Derived.Test.YtjpebckmjlmkmaaSup7
import Derived.Test.YtjpebckmjlmkmaaSup9
import Derived.Test.YtjpebckmjlmkmaaPx4
import Derived.Test.YtjpebckmjlmkmaaPx4
namespace Go.Proofs.Ytjpebckmjlmkmaa.P
open Go.RowKit Go.Proofs.YtjpebckmjlmkmaaW.PrintWords Go.Proofs.YtjpebckmjlmkmaaW.PrintLast Go.Proofs.YtjpebckmjlmkmaaW.PrintMore Go.Proofs.Ytjpebckmjlmkmaa.NumLem Go.Proofs.Ytjpebckmjlmkmaa.SealLem Go.Proofs.Ytjpebckmjlmkmaa.Sep
set_option linter.unusedVariables false
set_option linter.unusedSimpArgs false
theorem refTake_st {w0 w : World} {ps : List HP} {A : Option Addr} {n c : Nat} {l : List Int} (h : St w0 w ps) (hr : Kd.C (Kd.int .u8) w A n l) (hc : n ≤ c) (m : Nat) (h1 : 1 ≤ m) (h7 : m ≤ 7) (hm : m ≤ n) (hn : n ≤ 1000) (hb : Bytes l) :
    Calls Try.prog 28 #[.slice A n c, .int .i64 m] w fun e w' => ∃ A1 n1 c1, e = .returned (.tuple #[.int .i64 (val (l.take m)), .slice A1 n1 c1, .int .i64 0]) ∧ n1 ≤ c1 ∧ St w0 w' (rdp A1 n1 (l.drop m) :: ps) := by
  obtain rfl := hr.1
  have ht := refTake_is l m hb (by omega)
  have ha := take_at l 0 m (by omega) h1 h7
  rw [List.drop_zero, Nat.zero_add] at ha
  rw [ha] at ht
  refine (cambiumref01_Take.calls 20 A c l m _ _ _ w hr hc ht).mono ?_
  rintro e w' ⟨v, rfl, hv, hb⟩
  obtain ⟨A1, n1, c1, rfl, hle, hs⟩ := rd_of_V h hv hb
  exact ⟨A1, n1, c1, rfl, hle, hs⟩
theorem refOpen_st {w0 w : World} {ps : List HP} {A : Option Addr} {n c : Nat} {l : List Int} (h : St w0 w ps) (hr : Kd.C (Kd.int .u8) w A n l) (hc : n ≤ c) (hn : n ≤ 1000) (hb : Bytes l) {a0 a1 a2 a3 a4 q : Int} {r : List Int} (hk : openR l = (a0, a1, a2, a3, a4, r, q)) :
    Calls Try.prog 27 #[.slice A n c] w fun e w' => ∃ A1 n1 c1, e = .returned (.tuple #[.agg #[.int .i64 a0, .int .i64 a1, .int .i64 a2, .int .i64 a3, .int .i64 a4], .slice A1 n1 c1, .int .i64 q]) ∧ n1 ≤ c1 ∧ St w0 w' (rdp A1 n1 r :: ps) := by
  obtain rfl := hr.1
  refine (cambiumref04_Open.calls 3000 A c l a0 a1 a2 a3 a4 r q w hr hc (by rw [refOpen_is 3000 (Nat.le_refl _) l hb hn, hk])).mono ?_
  rintro e w' ⟨v, rfl, hv, hb⟩
  obtain ⟨A1, n1, c1, rfl, hle, hs⟩ := rd_of_V h hv hb
  exact ⟨A1, n1, c1, rfl, hle, hs⟩
set_option maxHeartbeats 8000000 in
set_option maxRecDepth 100000 in
theorem ref_Read.st0 {w : World} {A : Option Addr} {n c : Nat} {l : List Int} (hr : Kd.C (Kd.int .u8) w A n l) (hc : n ≤ c) (hn : n ≤ 1000) (hb : Bytes l) (slot : Int) :
    Calls Try.prog 12 #[.slice A n c, .int .i64 slot] w fun e w' => ReadPost w [] (refReadR l slot) e w' := by
  have HS := Aside0.mk ((St.start w).alloc_ Z35 28)
  have HR0 := Aside0.mk hr
  have HR := Aside0.mk (Kd.C_below hr (below_alloc (Below.refl _ _) (.cells Z35 28)))
  have HC := Aside0.mk hc
  have HN := Aside0.mk hn
  have HB := Aside0.mk hb
  have HZ := Aside0.mk Z35_one
  clear hr hc hn hb
  obtain ⟨R, hR⟩ : ∃ R, refReadR l slot = R := ⟨_, rfl⟩
  rw [hR]
  by_cases hq : openOk l
  case neg =>
    have hk : openR l = (0, 0, 0, 0, 0, [], 3) := openR_no l hq
    obtain rfl : none = R := by rw [← hR]; unfold refReadR; rw [if_neg]; rintro ⟨q1, _⟩; exact hq q1
    have HK := Aside0.mk hk
    clear hq hk hR
    go_enter Try.func12, Try.ntmps12
    go_wp2_with fail
    refine (refOpen_st HS.out HR.out HC.out HN.out HB.out HK.out).mono ?_
    rintro e w1 ⟨A1, n1, c1, rfl, hle, hs⟩
    have HXF := Aside0.mk ((hs.alloc_ #[.int .i64 0, .int .i64 0, .int .i64 0, .int .i64 0, .int .i64 0] 49).drop.drop)
    clear hs
    go_wp2_with (refine Own.wpList_store_row rfl 28 _ _ rfl w.heap.size rfl Z35 rfl 28 _ HXF.out.blk_is (by kernel_rfl) rfl HZ.out ?_)
    exact bodyPost_ret (results_ct rfl _ _ w.heap.size 28 Z35 (0, 0) _ rfl (blk_row_set HXF.out Z35).blk_is Try.underlying28 rfl (by kernel_rfl)) rfl ⟨rfl, (blk_row_set HXF.out Z35).drop⟩
  have hk : openR l = (kindOf l, addrOf l, countOf l, levelOf l, genOf l, l.drop 20, 0) := by unfold openR; rw [if_pos hq]; rfl
  have HK := Aside0.mk hk
  have HO := Aside0.mk hq
  have HRR := Aside0.mk (show (if volsN (l.drop 24) 8 = true ∧ writeR (supP (genOf l) (l.drop 20)) slot = (l, 0) then some (supP (genOf l) (l.drop 20)) else none) = R from by
    rw [← hR]
    unfold refReadR
    by_cases q : volsN (l.drop 24) 8 = true ∧ writeR (supP (genOf l) (l.drop 20)) slot = (l, 0)
    · rw [if_pos q, if_pos ⟨hq, q⟩]
    · rw [if_neg q, if_neg (fun q2 => q q2.2)])
  have HBY := Aside0.mk (show Bytes (l.drop 20) from HB.out.drop 20)
  have HLN := Aside0.mk (show (l.drop 20).length = 236 from by rw [List.length_drop, HO.out.1])
  have HLL := Aside0.mk (show l.length = n from HR0.out.1)
  clear hq hk hR
  go_enter Try.func12, Try.ntmps12
  go_wp2_with fail
  refine (refOpen_st HS.out HR.out HC.out HN.out HB.out HK.out).mono ?_
  rintro e w1 ⟨A1, n1, c1, rfl, hle, hs⟩
  have HX := Aside0.mk (show St w _ (blk w1.heap.size #[.int .i64 (kindOf l), .int .i64 (addrOf l), .int .i64 (countOf l), .int .i64 (levelOf l), .int .i64 (genOf l)] 49 :: rdp A1 n1 (l.drop 20) :: blk w.heap.size Z35 28 :: []) from hs.alloc_ _ _)
  have HLE := Aside0.mk hle
  clear hs hle
  obtain ⟨l0, hl0⟩ : ∃ l0, l.drop 20 = l0 := ⟨_, rfl⟩
  rw [show l.drop 24 = l0.drop 4 from by rw [← hl0, List.drop_drop], hl0] at HRR
  rw [hl0] at HBY HLN HX
  obtain ⟨gen, hgen⟩ : ∃ g, genOf l = g := ⟨_, rfl⟩
  rw [hgen] at HRR HX ⊢
  clear hl0 hgen HK HO HS HR
  have H236 := Aside0.mk (show n1 = 236 from by rw [← rd_len HX.out.swap, HLN.out])
  have k4 := blk_cell HX.out.blk_is 4
  obtain ⟨sb, hsb⟩ : ∃ b, (w1.alloc (.cells #[.int .i64 (kindOf l), .int .i64 (addrOf l), .int .i64 (countOf l), .int .i64 (levelOf l), .int .i64 gen] 49)).heap.size = b := ⟨_, rfl⟩
  have HSB := Aside0.mk (show w1.heap.size + 1 = sb from by rw [← hsb]; simp)
  have hx4 := HX.out.drop.alloc_ Z35 28
  rw [hsb] at hx4
  have HX4 := Aside0.mk hx4
  clear hx4 hsb HX
  go_upto_region 5 with (refine Own.wpList_store_row rfl 28 _ _ rfl (w1.heap.size + 1) rfl (SupS.cells ⟨gen, 0, 0, List.replicate 8 .zero⟩).toArray rfl 28 Z35 (by rw [HSB.out]; exact HX4.out.blk_is) (by rw [List.size_toArray, cells_length _ rfl]; kernel_rfl) (by rw [List.size_toArray, cells_length _ rfl]; rfl) (fun v hv => cells_one _ v (by simpa using hv)) ?_)
  have HX5 := Aside0.mk (blk_row_set HX4.out (SupS.cells ⟨gen, 0, 0, List.replicate 8 .zero⟩).toArray)
  rw [HSB.out]
  clear HX4 k4 HSB
  go_wp2_with fail
  refine (refTake_st HX5.out (rd_C HX5.out.swap) HLE.out 2 (by decide) (by decide) (by rw [H236.out]; decide) (by rw [H236.out]; decide) HBY.out).mono ?_
  rintro e w2 ⟨A2, n2, c2, rfl, hc2, hs2⟩
  obtain ⟨sec, hsec⟩ : ∃ x, val (l0.take 2) = x := ⟨_, rfl⟩
  rw [hsec]
  have HSEC := Aside0.mk hsec
  have HC2 := Aside0.mk hc2
  have HN2 := Aside0.mk (show n2 = 234 from by rw [← rd_len hs2, List.length_drop, HLN.out])
  have HX6 := Aside0.mk (show St w _ (blk sb (SupS.cells ⟨gen, sec, 0, List.replicate 8 .zero⟩).toArray 28 :: rdp A2 n2 (l0.drop 2) :: blk w.heap.size Z35 28 :: []) from by
    have := (hs2.swap.blk_set 1 (.int .i64 sec))
    rw [cells_sectors] at this
    exact (this.front 2).drop)
  have e1 := blk_cell hs2.swap.blk_is 1
  have f1 := blk_frozen hs2.swap.blk_is 1
  rw [show (SupS.cells ⟨gen, 0, 0, List.replicate 8 .zero⟩).toArray[1]? = some (.int .i64 0) from rfl] at e1
  clear hs2 hc2 hsec HX5 HLE H236
  go_wp2_with fail
  refine (refTake_st HX6.out (rd_C HX6.out.swap) HC2.out 2 (by decide) (by decide) (by rw [HN2.out]; decide) (by rw [HN2.out]; decide) (HBY.out.drop 2)).mono ?_
  rintro e w3 ⟨A3, n3, c3, rfl, hc3, hs3⟩
  obtain ⟨lg, hlg⟩ : ∃ x, val ((l0.drop 2).take 2) = x := ⟨_, rfl⟩
  rw [hlg]
  rw [List.drop_drop] at hs3
  have HLG := Aside0.mk hlg
  have HC3 := Aside0.mk hc3
  have HN3 := Aside0.mk (show n3 = 232 from by rw [← rd_len hs3, List.length_drop, HLN.out])
  have HX7 := Aside0.mk (show St w _ (blk sb (SupS.cells ⟨gen, sec, lg, List.replicate 8 .zero⟩).toArray 28 :: rdp A3 n3 (l0.drop (2 + 2)) :: blk w.heap.size Z35 28 :: []) from by
    have := (hs3.swap.blk_set 2 (.int .i64 lg))
    rw [cells_log] at this
    exact (this.front 2).drop)
  have e2 := blk_cell hs3.swap.blk_is 2
  have f2 := blk_frozen hs3.swap.blk_is 2
  rw [show (SupS.cells ⟨gen, sec, 0, List.replicate 8 .zero⟩).toArray[2]? = some (.int .i64 0) from rfl] at e2
  obtain ⟨l4, hl4⟩ : ∃ x, l0.drop (2 + 2) = x := ⟨_, rfl⟩
  obtain ⟨VV, hVV⟩ : ∃ x, volsP l4 8 = x := ⟨_, rfl⟩
  obtain ⟨NN, hNN⟩ : ∃ x, volsN l4 8 = x := ⟨_, rfl⟩
  have HSP := Aside0.mk (show supP gen l0 = ⟨gen, sec, lg, VV⟩ from by unfold supP; rw [HSEC.out, HLG.out, show l0.drop 4 = l4 from hl4, hVV])
  have HNP := Aside0.mk (show volsN (l0.drop 4) 8 = NN from by rw [show l0.drop 4 = l4 from hl4, hNN])
  have HBL := Aside0.mk (show Bytes l4 from hl4 ▸ HBY.out.drop _)
  have HL4 := Aside0.mk (show l4.length = 232 from by rw [← hl4, List.length_drop, HLN.out])
  rw [hl4] at HX7
  have HVV := Aside0.mk hVV
  have HNN := Aside0.mk hNN
  clear hs3 hc3 hlg HX6 HC2 HN2 e1 f1 hl4 hVV hNN HSEC HLG
  go_wp2_with fail
  clear e2 f2
  have HS0 := Aside0.mk (HX7.out.swap)
  clear HX7
  go_loopw [7, 12] (fun bv iv wr => ∃ (j n c : Nat) (A : Option Addr) (l : List Int) (vs : List VolS), iv = .int .i64 j ∧ bv = .slice A n c ∧ j ≤ 8 ∧ n ≤ c ∧ Aside0 (St w wr (rdp A n l :: blk sb (SupS.cells ⟨gen, sec, lg, vs⟩).toArray 28 :: blk w.heap.size Z35 28 :: [])) ∧ Aside0 (l.length = 232 - 18 * j) ∧ Aside0 (Bytes l) ∧ Aside0 (vs.length = 8 ∧ ∀ v ∈ vs, v.name.size ≤ 10) ∧ Aside0 (∃ pre : List VolS, pre.length = j ∧ vs = pre ++ List.replicate (8 - j) .zero ∧ pre ++ volsP l (8 - j) = VV) ∧ Aside0 (volsN l (8 - j) = NN)) (fun _ iv _ => 8 - (intOf iv).toNat)
  case atStart => exact ⟨0, n3, c3, A3, l4, _, rfl, rfl, by omega, HC3.out, HS0, HL4, HBL, ⟨⟨rfl, by decide +kernel⟩⟩, ⟨⟨[], rfl, rfl, HVV.out⟩⟩, HNN⟩
  case round =>
    clear HS0 HL4 HBL HC3 HN3 HVV HNN
    obtain ⟨j, nr, cr, Ar, lr, vs, rfl, rfl, hj, hc, HS, HLR, HBB, HVS, HPR, HQ⟩ := hrel
    have HCR := Aside0.mk hc
    have HNR := Aside0.mk (show nr = 232 - 18 * j from by rw [← rd_len HS.out, HLR.out])
    clear hc
    by_cases hlt : j < 8
    · have l1 : decide ((j : Int) < 8) = true := decide_eq_true (by omega)
      have l2 : (j : Int) < 8 := by omega
      have HLT := Aside0.mk hlt
      have hq := HQ.out
      rw [show 8 - j = (8 - (j + 1)) + 1 from by omega] at hq
      have HQ2 := Aside0.mk (show (decide (val (lr.take 1) ≤ 10) && volsN (lr.drop 18) (8 - (j + 1))) = NN from hq)
      obtain ⟨x1, hx1⟩ : ∃ x, val (lr.take 1) = x := ⟨_, rfl⟩
      rw [hx1] at HQ2
      have HX1 := Aside0.mk hx1
      have hxr := val_range (lr.take 1) (HBB.out.take 1)
      rw [hx1] at hxr
      have HXR := Aside0.mk hxr.1
      clear hq hx1 hxr HQ
      by_cases hc1 : x1 ≤ 10
      · obtain ⟨m, rfl⟩ := Int.eq_ofNat_of_zero_le HXR.out
        have hc3 : decide ((m : Int) > 10) = false := decide_eq_false (by omega)
        have HM10 := Aside0.mk (show m ≤ 10 from by omega)
        have HQ3 := Aside0.mk (show volsN (lr.drop 18) (8 - (j + 1)) = NN from by rw [← HQ2.out, decide_eq_true hc1, Bool.true_and])
        clear hlt hj
        go_wp2_with fail
        refine (refTake_st HS.out (rd_C HS.out) HCR.out 1 (by decide) (by decide) (by rw [HNR.out]; have := HLT.out; omega) (by rw [HNR.out]; omega) HBB.out).mono ?_
        rintro e w5 ⟨A5, n5, c5, rfl, hc5, hs5⟩
        rw [HX1.out]
        have HC5 := Aside0.mk hc5
        have HN5 := Aside0.mk (show n5 = 231 - 18 * j from by rw [← rd_len hs5, List.length_drop, HLR.out]; omega)
        have HSZ := Aside0.mk (show (SupS.cells ⟨gen, sec, lg, vs⟩).toArray.size = 35 from by rw [List.size_toArray, cells_length _ HVS.out.1])
        have hlt8 := HLT.out
        have hm10 := HM10.out
        obtain ⟨inf, hinf⟩ := Option.isSome_iff_exists.1 (show (Try.prog.info? 5).isSome = true from by kernel_rfl)
        have hsl5 := cut_to (P := Try.prog) 22 5 .i64 Try.underlying22 hinf A5 n5 c5 (m : Int) (Int.natCast_nonneg m) (by rw [HN5.out]; omega) HC5.out
        rw [Int.toNat_natCast] at hsl5
        have hcv := Kd.C_string (P := Try.prog) (c := c5) Try.underlying22 Try.underlying5 Try.underlying9 (show Kd.C (Kd.int .u8) w5 A5 m ((lr.drop 1).take m) from by
          have := Kd.C_take (m := m) (xs := lr.drop 1) (by rw [rd_len hs5]; exact rd_C hs5) (by rw [rd_len hs5, HN5.out]; omega)
          rwa [List.length_take, rd_len hs5, HN5.out, Nat.min_eq_left (by omega)] at this)
        obtain ⟨nm, hnm⟩ : ∃ x, strOfNums ((lr.drop 1).take m) = x := ⟨_, rfl⟩
        rw [hnm] at hcv
        have HNS := Aside0.mk (show nm.size = m from by rw [← hnm, strOfNums_size, List.length_take, rd_len hs5, HN5.out]; omega)
        obtain ⟨y1, hy1⟩ : ∃ x, val ((lr.drop 11).take 1) = x := ⟨_, rfl⟩
        obtain ⟨y2, hy2⟩ : ∃ x, val ((lr.drop 12).take 2) = x := ⟨_, rfl⟩
        obtain ⟨y3, hy3⟩ : ∃ x, val ((lr.drop 14).take 4) = x := ⟨_, rfl⟩
        have HVA := Aside0.mk (show volAt lr = ⟨nm, y1 == 1, y2, y3⟩ from by unfold volAt; rw [HX1.out, hy1, hy2, hy3, Int.toNat_natCast, hnm]; rfl)
        have HY1 := Aside0.mk hy1
        have HY2 := Aside0.mk hy2
        have HY3 := Aside0.mk hy3
        have HS5 := Aside0.mk (hs5.front 2)
        obtain ⟨z0, t0⟩ := cell_some HS5.out.blk_is (3 + j * 4) (by rw [HSZ.out]; omega)
        have r0 := blk_frozen HS5.out.blk_is (3 + j * 4)
        obtain ⟨A6, hsl6, hs6⟩ := rd_cut (HS5.out.blk_set (3 + j * 4) (.string nm)).swap HC5.out 10 (by rw [HN5.out]; omega)
        obtain ⟨n6, hn6⟩ : ∃ x, n5 - 10 = x := ⟨_, rfl⟩
        obtain ⟨c6, hc6⟩ : ∃ x, c5 - 10 = x := ⟨_, rfl⟩
        rw [hn6, hc6, show ((10 : Nat) : Int) = 10 from rfl] at hsl6
        rw [hn6, List.drop_drop] at hs6
        have HC6 := Aside0.mk (show n6 ≤ c6 from by have := HC5.out; omega)
        have HN6 := Aside0.mk (show n6 = 221 - 18 * j from by rw [← hn6, HN5.out]; omega)
        have HS6 := Aside0.mk hs6
        clear hs5 hc5 hnm hy1 hy2 hy3 hn6 hc6 hs6 hinf hm10
        go_wp2_with fail
        refine (refTake_st HS6.out (rd_C HS6.out) HC6.out 1 (by decide) (by decide) (by rw [HN6.out]; omega) (by rw [HN6.out]; omega) (HBB.out.drop 11)).mono ?_
        rintro e w8 ⟨A8, n8, c8, rfl, hc8, hs8⟩
        rw [List.drop_drop] at hs8
        rw [show val ((lr.drop (1 + 10)).take 1) = y1 from HY1.out]
        have HC8 := Aside0.mk hc8
        have HN8 := Aside0.mk (show n8 = 220 - 18 * j from by rw [← rd_len hs8, List.length_drop, HLR.out]; omega)
        have hb8 := hs8.swap.drop.front 2 |>.drop |>.swap
        obtain ⟨z1, t1⟩ := cell_some hb8.blk_is (3 + j * 4 + 1) (by simp only [Array.size_setIfInBounds]; rw [HSZ.out]; omega)
        have r1 := blk_frozen hb8.blk_is (3 + j * 4 + 1)
        have HS8 := Aside0.mk ((hb8.blk_set (3 + j * 4 + 1) (.bool (y1 == 1))).swap)
        clear hs8 hb8 hc8 t0 r0 hsl5 hsl6 hcv
        go_wp2_with fail
        refine (refTake_st HS8.out (rd_C HS8.out) HC8.out 2 (by decide) (by decide) (by rw [HN8.out]; omega) (by rw [HN8.out]; omega) (HBB.out.drop 12)).mono ?_
        rintro e w9 ⟨A9, n9, c9, rfl, hc9, hs9⟩
        rw [List.drop_drop] at hs9
        rw [show val ((lr.drop (1 + 10 + 1)).take 2) = y2 from HY2.out]
        have HC9 := Aside0.mk hc9
        have HN9 := Aside0.mk (show n9 = 218 - 18 * j from by rw [← rd_len hs9, List.length_drop, HLR.out]; omega)
        have hb9 := hs9.swap.drop.swap
        obtain ⟨z2, t2⟩ := cell_some hb9.blk_is (3 + j * 4 + 2) (by simp only [Array.size_setIfInBounds]; rw [HSZ.out]; omega)
        have r2 := blk_frozen hb9.blk_is (3 + j * 4 + 2)
        have HS9 := Aside0.mk ((hb9.blk_set (3 + j * 4 + 2) (.int .i64 y2)).swap)
        clear hs9 hb9 hc9 t1 r1
        go_wp2_with fail
        refine (refTake_st HS9.out (rd_C HS9.out) HC9.out 4 (by decide) (by decide) (by rw [HN9.out]; omega) (by rw [HN9.out]; omega) (HBB.out.drop 14)).mono ?_
        rintro e wa ⟨Aa, na, ca, rfl, hca, hsa⟩
        rw [List.drop_drop] at hsa
        rw [show val ((lr.drop (1 + 10 + 1 + 2)).take 4) = y3 from HY3.out]
        have HCA := Aside0.mk hca
        have hba := hsa.swap.drop.swap
        obtain ⟨z3, t3⟩ := cell_some hba.blk_is (3 + j * 4 + 3) (by simp only [Array.size_setIfInBounds]; rw [HSZ.out]; omega)
        have r3 := blk_frozen hba.blk_is (3 + j * 4 + 3)
        have HSF := Aside0.mk (show St w _ (rdp Aa na (lr.drop 18) :: blk sb (SupS.cells ⟨gen, sec, lg, vs.set j ⟨nm, y1 == 1, y2, y3⟩⟩).toArray 28 :: blk w.heap.size Z35 28 :: []) from by
          have := (hba.blk_set (3 + j * 4 + 3) (.int .i64 y3)).swap
          rw [← cells_vol gen sec lg vs j (by rw [HVS.out.1]; exact hlt8) ⟨nm, y1 == 1, y2, y3⟩]
          exact this)
        have HVS2 := Aside0.mk (show (vs.set j ⟨nm, y1 == 1, y2, y3⟩).length = 8 ∧ ∀ v ∈ vs.set j ⟨nm, y1 == 1, y2, y3⟩, v.name.size ≤ 10 from by
          refine ⟨by rw [List.length_set]; exact HVS.out.1, fun v hv => ?_⟩
          rcases List.mem_or_eq_of_mem_set hv with h | h
          · exact HVS.out.2 v h
          · rw [h]; show nm.size ≤ 10; rw [HNS.out]; exact HM10.out)
        have HLL2 := Aside0.mk (show (lr.drop 18).length = 232 - 18 * (j + 1) from by rw [List.length_drop, HLR.out]; omega)
        have HPR2 := Aside0.mk (show ∃ pre : List VolS, pre.length = j + 1 ∧ vs.set j ⟨nm, y1 == 1, y2, y3⟩ = pre ++ List.replicate (8 - (j + 1)) .zero ∧ pre ++ volsP (lr.drop 18) (8 - (j + 1)) = VV from by
          obtain ⟨pre, p1, p2, p3⟩ := HPR.out
          refine ⟨pre ++ [⟨nm, y1 == 1, y2, y3⟩], by rw [List.length_append, p1]; rfl, by rw [p2, pre_set hlt8 p1], ?_⟩
          rw [← p3, show 8 - j = (8 - (j + 1)) + 1 from by omega, volsP, HVA.out, List.append_assoc]
          rfl)
        have HB18 := Aside0.mk (HBB.out.drop 18)
        have e1 := Aside0.mk (inc_i j (by omega))
        clear hsa hba hca t2 r2 hlt8
        go_wp2_with fail
        exact ⟨⟨j + 1, na, ca, Aa, lr.drop 18, _, rfl, rfl, HLT.out, HCA.out, HSF, HLL2, HB18, HVS2, HPR2, HQ3⟩, meas_i j 8 HLT.out _ rfl⟩
      · have hc3 : decide (x1 > 10) = true := decide_eq_true (by omega)
        have HN0 := Aside0.mk (show NN = false from by rw [← HQ2.out, decide_eq_false hc1, Bool.false_and])
        obtain rfl : none = R := by rw [← HRR.out, if_neg]; rintro ⟨h, _⟩; rw [HNP.out, HN0.out] at h; cases h
        clear hlt hj
        go_wp2_with fail
        refine (refTake_st HS.out (rd_C HS.out) HCR.out 1 (by decide) (by decide) (by rw [HNR.out]; have := HLT.out; omega) (by rw [HNR.out]; omega) HBB.out).mono ?_
        rintro e w5 ⟨A5, n5, c5, rfl, hc5, hs5⟩
        rw [HX1.out]
        have HXF := Aside0.mk (hs5.drop.drop.drop)
        clear hs5 hc5
        go_wp2_with (refine Own.wpList_store_row rfl 28 _ _ rfl w.heap.size rfl Z35 rfl 28 _ HXF.out.blk_is (by kernel_rfl) rfl HZ.out ?_)
        exact bodyPost_ret (results_ct rfl _ _ w.heap.size 28 Z35 (0, 0) _ rfl (blk_row_set HXF.out Z35).blk_is Try.underlying28 rfl (by kernel_rfl)) rfl ⟨rfl, (blk_row_set HXF.out Z35).drop⟩
    · have l1 : decide ((j : Int) < 8) = false := decide_eq_false (by omega)
      obtain rfl : j = 8 := by omega
      have hNN : NN = true := by rw [← HQ.out]; rfl
      have hvv : vs = VV := by
        obtain ⟨pre, h1, h2, h3⟩ := HPR.out
        rw [h2, ← h3]
        simp [volsP]
      subst hvv
      have HRR2 := Aside0.mk (show (if writeR ⟨gen, sec, lg, vs⟩ slot = (l, 0) then some ⟨gen, sec, lg, vs⟩ else none) = R from by
        rw [← HRR.out, HSP.out, HNP.out, hNN]
        by_cases h : writeR ⟨gen, sec, lg, vs⟩ slot = (l, 0)
        · rw [if_pos h, if_pos ⟨rfl, h⟩]
        · rw [if_neg h, if_neg (fun q => h q.2)])
      have hW := ref_Write.st ⟨gen, sec, lg, vs⟩ HVS.out.1 (fun v hv => Nat.le_trans (HVS.out.2 v hv) (by decide)) slot HS.out
      obtain ⟨wr', hwr⟩ : ∃ r, writeR ⟨gen, sec, lg, vs⟩ slot = r := ⟨_, rfl⟩
      have HWB := Aside0.mk (show wr'.2 = 0 → Bytes wr'.1 from fun h => by
        have h2 : writeR ⟨gen, sec, lg, vs⟩ slot = (wr'.1, 0) := by rw [hwr, ← h]
        exact (write_opens HVS.out.1 h2).2.2.2.1)
      rw [hwr] at hW HRR2
      obtain ⟨wl, we⟩ := wr'
      have hr := range_all HS.out.swap.blk_is
      obtain ⟨dl, hdl⟩ : ∃ d, (SupS.cells ⟨gen, sec, lg, vs⟩).toArray.toList = d := ⟨_, rfl⟩
      have HDA := Aside0.mk (show (SupS.cells ⟨gen, sec, lg, vs⟩).toArray = dl.toArray from by rw [← hdl])
      have HDL := Aside0.mk (show dl.length = 35 from by rw [← hdl]; exact cells_length _ HVS.out.1)
      have HDO := Aside0.mk (show ∀ v ∈ dl, v.oneCell' = true from by rw [← hdl]; exact fun v hv => cells_one ⟨gen, sec, lg, vs⟩ v (by simpa using hv))
      rw [hdl] at hr
      rw [HDA.out] at hW
      have HRL := Aside0.mk hr
      have HW := Aside0.mk hW
      clear hW hr hdl hwr hNN hj
      go_wp2_with (refine wpList_load_midg (by rfl) 28 _ rfl sb 0 rfl dl _ HRL.out Try.underlying28 rfl (by rw [HDL.out]; kernel_rfl) ?_)
      refine HW.out.mono ?_
      rintro e wz ⟨Aw, mw, cw, rfl, hsz⟩
      have HSW := Aside0.mk hsz
      clear hsz HW
      by_cases hwe : we = 0
      case neg =>
        have hb : (we != 0) = true := by simpa using hwe
        obtain rfl : none = R := by rw [← HRR2.out, if_neg]; intro h; exact hwe (congrArg Prod.snd h)
        have HXF := Aside0.mk HSW.out.drop.drop.drop
        clear hwe
        go_wp2_with (refine Own.wpList_store_row rfl 28 _ _ rfl w.heap.size rfl Z35 rfl 28 _ HXF.out.blk_is (by kernel_rfl) rfl HZ.out ?_)
        exact bodyPost_ret (results_ct rfl _ _ w.heap.size 28 Z35 (0, 0) _ rfl (blk_row_set HXF.out Z35).blk_is Try.underlying28 rfl (by kernel_rfl)) rfl ⟨rfl, (blk_row_set HXF.out Z35).drop⟩
      subst hwe
      have hcv1 := Kd.C_string (P := Try.prog) (c := cw) Try.underlying22 Try.underlying5 Try.underlying9 HSW.out.row_C.2.2
      have hcv2 := Kd.C_string (P := Try.prog) (c := c) Try.underlying22 Try.underlying5 Try.underlying9 (Kd.C_below HR0.out HSW.out.below)
      obtain ⟨b, hb⟩ : ∃ b, ((strOfNums wl).toList != (strOfNums l).toList) = b := ⟨_, rfl⟩
      cases b with
      | true =>
        obtain rfl : none = R := by
          rw [← HRR2.out, if_neg]
          intro h
          rw [show wl = l from congrArg Prod.fst h] at hb
          simp at hb
        have hb2 : ((strOfNums wl).toList == (strOfNums l).toList) = false := by rw [bne, Bool.not_eq_true'] at hb; exact hb
        have HXF := Aside0.mk HSW.out.drop.drop.drop
        go_wp2_with (refine Own.wpList_store_row rfl 28 _ _ rfl w.heap.size rfl Z35 rfl 28 _ HXF.out.blk_is (by kernel_rfl) rfl HZ.out ?_)
        exact bodyPost_ret (results_ct rfl _ _ w.heap.size 28 Z35 (0, 0) _ rfl (blk_row_set HXF.out Z35).blk_is Try.underlying28 rfl (by kernel_rfl)) rfl ⟨rfl, (blk_row_set HXF.out Z35).drop⟩
      | false =>
        have hwl : wl = l := (rows_inj (HWB.out rfl) HB.out).1 (by simpa using hb)
        obtain rfl : some ⟨gen, sec, lg, vs⟩ = R := by rw [← HRR2.out, if_pos]; rw [hwl]
        have HRL2 := Aside0.mk (show wz.rangeAt sb 0 dl from by have := range_all (HSW.out.front 2).blk_is; simpa using this)
        have HXF := Aside0.mk HSW.out.drop.drop.drop
        have hb2 : ((strOfNums wl).toList == (strOfNums l).toList) = true := by rw [bne, Bool.not_eq_false'] at hb; exact hb
        clear hwl
        go_wp2_with (first | (refine wpList_load_midg (by rfl) 28 _ rfl sb 0 rfl dl _ HRL2.out Try.underlying28 rfl (by rw [HDL.out]; kernel_rfl) ?_) | (refine Own.wpList_store_row rfl 28 _ _ rfl w.heap.size rfl dl.toArray rfl 28 _ HXF.out.blk_is (by rw [List.size_toArray, HDL.out]; kernel_rfl) (by rw [List.size_toArray, HDL.out]; rfl) (fun v hv => HDO.out v (by simpa using hv)) ?_))
        refine bodyPost_ret (results_ct rfl _ _ w.heap.size 28 dl.toArray (0, 0) _ rfl (blk_row_set HXF.out dl.toArray).blk_is Try.underlying28 rfl (by rw [List.size_toArray, HDL.out]; kernel_rfl)) rfl ⟨?_, (blk_row_set HXF.out dl.toArray).drop⟩
        rw [← HDA.out]
        rfl
theorem ref_Read.st {w0 w : World} {ps : List HP} {A : Option Addr} {n c : Nat} {l : List Int} (h : St w0 w ps) (hr : Kd.C (Kd.int .u8) w A n l) (hc : n ≤ c) (hn : n ≤ 1000) (hb : Bytes l) (slot : Int) :
    Calls Try.prog 12 #[.slice A n c, .int .i64 slot] w fun e w' => ReadPost w0 ps (refReadR l slot) e w' := by
  refine (ref_Read.st0 hr hc hn hb slot).mono ?_
  rintro e w' ⟨he, hs⟩
  exact ⟨he, h.trans hs⟩
end Go.Proofs.Ytjpebckmjlmkmaa.P
