/- Of two superblocks the one that counts: both functions, walked. -/
import Derived.Test.YtjpebckmjlmkmaaSup10
import Derived.Test.YtjpebckmjlmkmaaSup11
import Derived.Test.YtjpebckmjlmkmaaSup12
namespace Go.Proofs.Ytjpebckmjlmkmaa.P
open Go.RowKit Go.Proofs.YtjpebckmjlmkmaaW.PrintWords Go.Proofs.YtjpebckmjlmkmaaW.PrintLast Go.Proofs.YtjpebckmjlmkmaaW.PrintMore Go.Proofs.Ytjpebckmjlmkmaa.NumLem Go.Proofs.Ytjpebckmjlmkmaa.SealLem Go.Proofs.Ytjpebckmjlmkmaa.Sep
set_option linter.unusedVariables false
set_option linter.unusedSimpArgs false
/-- What Newer answers. -/
def nOf (ra rb : Option SupS) : SupS × Int × Int :=
  match newerR ra rb with
  | none => (supZ, 0, 27)
  | some p => (p.1, p.2, 0)
def NewerPost (w0 : World) (ps : List HP) (ra rb : Option SupS) (e : Ending) (w' : World) : Prop := e = .returned (.tuple #[.agg (nOf ra rb).1.cells.toArray, .int .i64 (nOf ra rb).2.1, .int .i64 (nOf ra rb).2.2]) ∧ St w0 w' ps
theorem cell0 {s : SupS} {dl : List Value} (h : s.cells = dl) : dl.toArray[0]? = some (.int .i64 s.gen) := by rw [← h]; rfl
set_option maxHeartbeats 4000000 in
set_option maxRecDepth 100000 in
theorem super_Newer.st0 {w : World} {A1 A2 : Option Addr} {n1 n2 c1 c2 : Nat} {la lb : List Int} (hr1 : Kd.C (Kd.int .u8) w A1 n1 la) (hc1 : n1 ≤ c1) (hn1 : n1 ≤ 1000) (hb1 : Bytes la) (hr2 : Kd.C (Kd.int .u8) w A2 n2 lb) (hc2 : n2 ≤ c2) (hn2 : n2 ≤ 1000) (hb2 : Bytes lb) :
    Calls Try.prog 13 #[.slice A1 n1 c1, .slice A2 n2 c2] w fun e w' => NewerPost w [] (readR la 0) (readR lb 1) e w' := by
  have HS := Aside0.mk ((St.start w).alloc_ Z35 28)
  have HZ := Aside0.mk Z35_one
  have HR1 := Aside0.mk (Kd.C_below hr1 HS.out.below)
  have HR2 := Aside0.mk hr2
  have HC1 := Aside0.mk hc1
  have HC2 := Aside0.mk hc2
  have HN1 := Aside0.mk hn1
  have HN2 := Aside0.mk hn2
  have HB1 := Aside0.mk hb1
  have HB2 := Aside0.mk hb2
  obtain ⟨ra, hra⟩ : ∃ r, readR la 0 = r := ⟨_, rfl⟩
  obtain ⟨rb, hrb⟩ : ∃ r, readR lb 1 = r := ⟨_, rfl⟩
  have HRA := Aside0.mk (show readR la 0 = ra from by rw [hra])
  have HRB := Aside0.mk (show readR lb 1 = rb from by rw [hrb])
  have HLA := Aside0.mk (show (supOf ra).vols.length = 8 from hra ▸ supOf_len la 0)
  have HLB := Aside0.mk (show (supOf rb).vols.length = 8 from hrb ▸ supOf_len lb 1)
  rw [hra, hrb]
  clear hr1 hr2 hc1 hc2 hn1 hn2 hb1 hb2 hra hrb
  go_enter Try.func13, Try.ntmps13
  go_wp2_with fail
  refine (super_Read.st HS.out HR1.out HC1.out HN1.out HB1.out 0).mono ?_
  rintro e w1 ⟨rfl, hs1⟩
  rw [HRA.out]
  obtain ⟨d1, hd1⟩ : ∃ d, (supOf ra).cells = d := ⟨_, rfl⟩
  obtain ⟨e1, he1⟩ : ∃ d, errOf ra = d := ⟨_, rfl⟩
  rw [hd1, he1]
  have HDL1 := Aside0.mk (show d1.length = 35 from by rw [← hd1]; exact cells_length _ HLA.out)
  have HDO1 := Aside0.mk (show ∀ v ∈ d1, v.oneCell' = true from by rw [← hd1]; exact fun v hv => cells_one _ v hv)
  have HDD1 := Aside0.mk hd1
  have HEE1 := Aside0.mk he1
  have HX1 := Aside0.mk (hs1.alloc_ Z35 28)
  have HS1 := Aside0.mk (blk_row_set HX1.out d1.toArray)
  clear hs1 hd1 he1
  go_wp2_with (refine Own.wpList_store_row rfl 28 _ _ rfl w1.heap.size rfl d1.toArray rfl 28 _ HX1.out.blk_is (by rw [List.size_toArray, HDL1.out]; kernel_rfl) (by rw [List.size_toArray, HDL1.out]; rfl) (fun v hv => HDO1.out v (by simpa using hv)) ?_)
  refine (super_Read.st HS1.out (Kd.C_below HR2.out HS1.out.below) HC2.out HN2.out HB2.out 1).mono ?_
  rintro e w2 ⟨rfl, hs2⟩
  rw [HRB.out]
  obtain ⟨d2, hd2⟩ : ∃ d, (supOf rb).cells = d := ⟨_, rfl⟩
  obtain ⟨e2, he2⟩ : ∃ d, errOf rb = d := ⟨_, rfl⟩
  rw [hd2, he2]
  have HDL2 := Aside0.mk (show d2.length = 35 from by rw [← hd2]; exact cells_length _ HLB.out)
  have HDO2 := Aside0.mk (show ∀ v ∈ d2, v.oneCell' = true from by rw [← hd2]; exact fun v hv => cells_one _ v hv)
  have HDD2 := Aside0.mk hd2
  have HEE2 := Aside0.mk he2
  have HX2 := Aside0.mk (hs2.alloc_ Z35 28)
  have hsf := blk_row_set HX2.out d2.toArray
  obtain ⟨wf, hwf⟩ : ∃ W, (w2.alloc (.cells Z35 28)).setRow w2.heap.size d2.toArray = W := ⟨_, rfl⟩
  rw [hwf] at hsf
  unfold Z35 at hwf
  have HSF := Aside0.mk hsf
  have HWF := Aside0.mk hwf
  have z0 := (blk_cell HSF.out.blk_is 0).trans (cell0 HDD2.out)
  have q0 := (blk_cell HSF.out.swap.blk_is 0).trans (cell0 HDD1.out)
  clear hs2 hd2 he2 hsf hwf
  go_upto_region 3 with (refine Own.wpList_store_row rfl 28 _ _ rfl w2.heap.size rfl d2.toArray rfl 28 _ HX2.out.blk_is (by rw [List.size_toArray, HDL2.out]; kernel_rfl) (by rw [List.size_toArray, HDL2.out]; rfl) (fun v hv => HDO2.out v (by simpa using hv)) ?_; rw [HWF.out])
  cases ra with
  | none =>
    obtain rfl : 3 = e1 := HEE1.out
    cases rb with
    | none =>
      obtain rfl : 3 = e2 := HEE2.out
      have HXF := Aside0.mk HSF.out.drop.drop
      clear z0 q0
      go_wp2_with (refine Own.wpList_store_row rfl 28 _ _ rfl w.heap.size rfl Z35 rfl 28 _ HXF.out.blk_is (by kernel_rfl) rfl HZ.out ?_)
      exact bodyPost_ret (results_ctt rfl _ _ w.heap.size 28 Z35 (0, 0) _ rfl (blk_row_set HXF.out Z35).blk_is Try.underlying28 rfl (by kernel_rfl)) rfl ⟨rfl, (blk_row_set HXF.out Z35).drop⟩
    | some t =>
      obtain rfl : 0 = e2 := HEE2.out
      have HRG := Aside0.mk (range_all HSF.out.blk_is)
      have HXF := Aside0.mk HSF.out.drop.drop
      clear z0 q0
      go_wp2_with (first | (refine wpList_load_midg (by rfl) 28 _ rfl w2.heap.size 0 rfl d2 _ HRG.out Try.underlying28 rfl (by rw [HDL2.out]; kernel_rfl) ?_) | (refine Own.wpList_store_row rfl 28 _ _ rfl w.heap.size rfl d2.toArray rfl 28 _ HXF.out.blk_is (by rw [List.size_toArray, HDL2.out]; kernel_rfl) (by rw [List.size_toArray, HDL2.out]; rfl) (fun v hv => HDO2.out v (by simpa using hv)) ?_))
      refine bodyPost_ret (results_ctt rfl _ _ w.heap.size 28 d2.toArray (0, 0) _ rfl (blk_row_set HXF.out d2.toArray).blk_is Try.underlying28 rfl (by rw [List.size_toArray, HDL2.out]; kernel_rfl)) rfl ⟨?_, (blk_row_set HXF.out d2.toArray).drop⟩
      rw [← HDD2.out]
      rfl
  | some s =>
    obtain rfl : 0 = e1 := HEE1.out
    cases rb with
    | none =>
      obtain rfl : 3 = e2 := HEE2.out
      have HRG := Aside0.mk (range_all HSF.out.swap.blk_is)
      have HXF := Aside0.mk HSF.out.drop.drop
      clear z0 q0
      go_wp2_with (first | (refine wpList_load_midg (by rfl) 28 _ rfl w1.heap.size 0 rfl d1 _ HRG.out Try.underlying28 rfl (by rw [HDL1.out]; kernel_rfl) ?_) | (refine Own.wpList_store_row rfl 28 _ _ rfl w.heap.size rfl d1.toArray rfl 28 _ HXF.out.blk_is (by rw [List.size_toArray, HDL1.out]; kernel_rfl) (by rw [List.size_toArray, HDL1.out]; rfl) (fun v hv => HDO1.out v (by simpa using hv)) ?_))
      refine bodyPost_ret (results_ctt rfl _ _ w.heap.size 28 d1.toArray (0, 0) _ rfl (blk_row_set HXF.out d1.toArray).blk_is Try.underlying28 rfl (by rw [List.size_toArray, HDL1.out]; kernel_rfl)) rfl ⟨?_, (blk_row_set HXF.out d1.toArray).drop⟩
      rw [← HDD1.out]
      rfl
    | some t =>
      obtain rfl : 0 = e2 := HEE2.out
      by_cases hg : t.gen > s.gen
      · have hg1 : decide ((supOf (some t)).gen > (supOf (some s)).gen) = true := decide_eq_true hg
        have hg2 : (supOf (some t)).gen > (supOf (some s)).gen := hg
        have HRG := Aside0.mk (range_all HSF.out.blk_is)
        have HXF := Aside0.mk HSF.out.drop.drop
        go_wp2_with (first | (refine wpList_load_midg (by rfl) 28 _ rfl w2.heap.size 0 rfl d2 _ HRG.out Try.underlying28 rfl (by rw [HDL2.out]; kernel_rfl) ?_) | (refine Own.wpList_store_row rfl 28 _ _ rfl w.heap.size rfl d2.toArray rfl 28 _ HXF.out.blk_is (by rw [List.size_toArray, HDL2.out]; kernel_rfl) (by rw [List.size_toArray, HDL2.out]; rfl) (fun v hv => HDO2.out v (by simpa using hv)) ?_))
        refine bodyPost_ret (results_ctt rfl _ _ w.heap.size 28 d2.toArray (0, 0) _ rfl (blk_row_set HXF.out d2.toArray).blk_is Try.underlying28 rfl (by rw [List.size_toArray, HDL2.out]; kernel_rfl)) rfl ⟨?_, (blk_row_set HXF.out d2.toArray).drop⟩
        rw [← HDD2.out]
        simp [nOf, newerR, hg, supOf]
      · have hg1 : decide ((supOf (some t)).gen > (supOf (some s)).gen) = false := decide_eq_false hg
        have hg2 : ¬ (supOf (some t)).gen > (supOf (some s)).gen := hg
        have HRG := Aside0.mk (range_all HSF.out.swap.blk_is)
        have HXF := Aside0.mk HSF.out.drop.drop
        go_wp2_with (first | (refine wpList_load_midg (by rfl) 28 _ rfl w1.heap.size 0 rfl d1 _ HRG.out Try.underlying28 rfl (by rw [HDL1.out]; kernel_rfl) ?_) | (refine Own.wpList_store_row rfl 28 _ _ rfl w.heap.size rfl d1.toArray rfl 28 _ HXF.out.blk_is (by rw [List.size_toArray, HDL1.out]; kernel_rfl) (by rw [List.size_toArray, HDL1.out]; rfl) (fun v hv => HDO1.out v (by simpa using hv)) ?_))
        refine bodyPost_ret (results_ctt rfl _ _ w.heap.size 28 d1.toArray (0, 0) _ rfl (blk_row_set HXF.out d1.toArray).blk_is Try.underlying28 rfl (by rw [List.size_toArray, HDL1.out]; kernel_rfl)) rfl ⟨?_, (blk_row_set HXF.out d1.toArray).drop⟩
        rw [← HDD1.out]
        rw [show nOf (some s) (some t) = (s, 0, 0) from by simp only [nOf, newerR, if_neg (show ¬ t.gen > s.gen from by omega)]]
        rfl
theorem super_Newer.st {w0 w : World} {ps : List HP} (h : St w0 w ps) {A1 A2 : Option Addr} {n1 n2 c1 c2 : Nat} {la lb : List Int} (hr1 : Kd.C (Kd.int .u8) w A1 n1 la) (hc1 : n1 ≤ c1) (hn1 : n1 ≤ 1000) (hb1 : Bytes la) (hr2 : Kd.C (Kd.int .u8) w A2 n2 lb) (hc2 : n2 ≤ c2) (hn2 : n2 ≤ 1000) (hb2 : Bytes lb) :
    Calls Try.prog 13 #[.slice A1 n1 c1, .slice A2 n2 c2] w fun e w' => NewerPost w0 ps (readR la 0) (readR lb 1) e w' := by
  refine (super_Newer.st0 hr1 hc1 hn1 hb1 hr2 hc2 hn2 hb2).mono ?_
  rintro e w' ⟨he, hs⟩
  exact ⟨he, h.trans hs⟩
set_option maxHeartbeats 4000000 in
set_option maxRecDepth 100000 in
theorem ref_Newer.st0 {w : World} {A1 A2 : Option Addr} {n1 n2 c1 c2 : Nat} {la lb : List Int} (hr1 : Kd.C (Kd.int .u8) w A1 n1 la) (hc1 : n1 ≤ c1) (hn1 : n1 ≤ 1000) (hb1 : Bytes la) (hr2 : Kd.C (Kd.int .u8) w A2 n2 lb) (hc2 : n2 ≤ c2) (hn2 : n2 ≤ 1000) (hb2 : Bytes lb) :
    Calls Try.prog 14 #[.slice A1 n1 c1, .slice A2 n2 c2] w fun e w' => NewerPost w [] (readR la 0) (readR lb 1) e w' := by
  have HS := Aside0.mk ((St.start w).alloc_ Z35 28)
  have HZ := Aside0.mk Z35_one
  have HR1 := Aside0.mk (Kd.C_below hr1 HS.out.below)
  have HR2 := Aside0.mk hr2
  have HC1 := Aside0.mk hc1
  have HC2 := Aside0.mk hc2
  have HN1 := Aside0.mk hn1
  have HN2 := Aside0.mk hn2
  have HB1 := Aside0.mk hb1
  have HB2 := Aside0.mk hb2
  obtain ⟨ra, hra⟩ : ∃ r, readR la 0 = r := ⟨_, rfl⟩
  obtain ⟨rb, hrb⟩ : ∃ r, readR lb 1 = r := ⟨_, rfl⟩
  have HRA := Aside0.mk (show refReadR la 0 = ra from by rw [← read_same la HB1.out]; rw [hra])
  have HRB := Aside0.mk (show refReadR lb 1 = rb from by rw [← read_same lb HB2.out]; rw [hrb])
  have HLA := Aside0.mk (show (supOf ra).vols.length = 8 from hra ▸ supOf_len la 0)
  have HLB := Aside0.mk (show (supOf rb).vols.length = 8 from hrb ▸ supOf_len lb 1)
  rw [hra, hrb]
  clear hr1 hr2 hc1 hc2 hn1 hn2 hb1 hb2 hra hrb
  go_enter Try.func14, Try.ntmps14
  go_wp2_with fail
  refine (ref_Read.st HS.out HR1.out HC1.out HN1.out HB1.out 0).mono ?_
  rintro e w1 ⟨rfl, hs1⟩
  rw [HRA.out]
  obtain ⟨d1, hd1⟩ : ∃ d, (supOf ra).cells = d := ⟨_, rfl⟩
  obtain ⟨e1, he1⟩ : ∃ d, errOf ra = d := ⟨_, rfl⟩
  rw [hd1, he1]
  have HDL1 := Aside0.mk (show d1.length = 35 from by rw [← hd1]; exact cells_length _ HLA.out)
  have HDO1 := Aside0.mk (show ∀ v ∈ d1, v.oneCell' = true from by rw [← hd1]; exact fun v hv => cells_one _ v hv)
  have HDD1 := Aside0.mk hd1
  have HEE1 := Aside0.mk he1
  have HX1 := Aside0.mk (hs1.alloc_ Z35 28)
  have HS1 := Aside0.mk (blk_row_set HX1.out d1.toArray)
  clear hs1 hd1 he1
  go_wp2_with (refine Own.wpList_store_row rfl 28 _ _ rfl w1.heap.size rfl d1.toArray rfl 28 _ HX1.out.blk_is (by rw [List.size_toArray, HDL1.out]; kernel_rfl) (by rw [List.size_toArray, HDL1.out]; rfl) (fun v hv => HDO1.out v (by simpa using hv)) ?_)
  refine (ref_Read.st HS1.out (Kd.C_below HR2.out HS1.out.below) HC2.out HN2.out HB2.out 1).mono ?_
  rintro e w2 ⟨rfl, hs2⟩
  rw [HRB.out]
  obtain ⟨d2, hd2⟩ : ∃ d, (supOf rb).cells = d := ⟨_, rfl⟩
  obtain ⟨e2, he2⟩ : ∃ d, errOf rb = d := ⟨_, rfl⟩
  rw [hd2, he2]
  have HDL2 := Aside0.mk (show d2.length = 35 from by rw [← hd2]; exact cells_length _ HLB.out)
  have HDO2 := Aside0.mk (show ∀ v ∈ d2, v.oneCell' = true from by rw [← hd2]; exact fun v hv => cells_one _ v hv)
  have HDD2 := Aside0.mk hd2
  have HEE2 := Aside0.mk he2
  have HX2 := Aside0.mk (hs2.alloc_ Z35 28)
  have hsf := blk_row_set HX2.out d2.toArray
  obtain ⟨wf, hwf⟩ : ∃ W, (w2.alloc (.cells Z35 28)).setRow w2.heap.size d2.toArray = W := ⟨_, rfl⟩
  rw [hwf] at hsf
  unfold Z35 at hwf
  have HSF := Aside0.mk hsf
  have HWF := Aside0.mk hwf
  have z0 := (blk_cell HSF.out.blk_is 0).trans (cell0 HDD2.out)
  have q0 := (blk_cell HSF.out.swap.blk_is 0).trans (cell0 HDD1.out)
  clear hs2 hd2 he2 hsf hwf
  go_upto_region 3 with (refine Own.wpList_store_row rfl 28 _ _ rfl w2.heap.size rfl d2.toArray rfl 28 _ HX2.out.blk_is (by rw [List.size_toArray, HDL2.out]; kernel_rfl) (by rw [List.size_toArray, HDL2.out]; rfl) (fun v hv => HDO2.out v (by simpa using hv)) ?_; rw [HWF.out])
  cases ra with
  | none =>
    obtain rfl : 3 = e1 := HEE1.out
    cases rb with
    | none =>
      obtain rfl : 3 = e2 := HEE2.out
      have HXF := Aside0.mk HSF.out.drop.drop
      clear z0 q0
      go_wp2_with (refine Own.wpList_store_row rfl 28 _ _ rfl w.heap.size rfl Z35 rfl 28 _ HXF.out.blk_is (by kernel_rfl) rfl HZ.out ?_)
      exact bodyPost_ret (results_ctt rfl _ _ w.heap.size 28 Z35 (0, 0) _ rfl (blk_row_set HXF.out Z35).blk_is Try.underlying28 rfl (by kernel_rfl)) rfl ⟨rfl, (blk_row_set HXF.out Z35).drop⟩
    | some t =>
      obtain rfl : 0 = e2 := HEE2.out
      have HRG := Aside0.mk (range_all HSF.out.blk_is)
      have HXF := Aside0.mk HSF.out.drop.drop
      clear z0 q0
      go_wp2_with (first | (refine wpList_load_midg (by rfl) 28 _ rfl w2.heap.size 0 rfl d2 _ HRG.out Try.underlying28 rfl (by rw [HDL2.out]; kernel_rfl) ?_) | (refine Own.wpList_store_row rfl 28 _ _ rfl w.heap.size rfl d2.toArray rfl 28 _ HXF.out.blk_is (by rw [List.size_toArray, HDL2.out]; kernel_rfl) (by rw [List.size_toArray, HDL2.out]; rfl) (fun v hv => HDO2.out v (by simpa using hv)) ?_))
      refine bodyPost_ret (results_ctt rfl _ _ w.heap.size 28 d2.toArray (0, 0) _ rfl (blk_row_set HXF.out d2.toArray).blk_is Try.underlying28 rfl (by rw [List.size_toArray, HDL2.out]; kernel_rfl)) rfl ⟨?_, (blk_row_set HXF.out d2.toArray).drop⟩
      rw [← HDD2.out]
      rfl
  | some s =>
    obtain rfl : 0 = e1 := HEE1.out
    cases rb with
    | none =>
      obtain rfl : 3 = e2 := HEE2.out
      have HRG := Aside0.mk (range_all HSF.out.swap.blk_is)
      have HXF := Aside0.mk HSF.out.drop.drop
      clear z0 q0
      go_wp2_with (first | (refine wpList_load_midg (by rfl) 28 _ rfl w1.heap.size 0 rfl d1 _ HRG.out Try.underlying28 rfl (by rw [HDL1.out]; kernel_rfl) ?_) | (refine Own.wpList_store_row rfl 28 _ _ rfl w.heap.size rfl d1.toArray rfl 28 _ HXF.out.blk_is (by rw [List.size_toArray, HDL1.out]; kernel_rfl) (by rw [List.size_toArray, HDL1.out]; rfl) (fun v hv => HDO1.out v (by simpa using hv)) ?_))
      refine bodyPost_ret (results_ctt rfl _ _ w.heap.size 28 d1.toArray (0, 0) _ rfl (blk_row_set HXF.out d1.toArray).blk_is Try.underlying28 rfl (by rw [List.size_toArray, HDL1.out]; kernel_rfl)) rfl ⟨?_, (blk_row_set HXF.out d1.toArray).drop⟩
      rw [← HDD1.out]
      rfl
    | some t =>
      obtain rfl : 0 = e2 := HEE2.out
      by_cases hg : t.gen > s.gen
      · have hg1 : decide ((supOf (some t)).gen > (supOf (some s)).gen) = true := decide_eq_true hg
        have hg2 : (supOf (some t)).gen > (supOf (some s)).gen := hg
        have HRG := Aside0.mk (range_all HSF.out.blk_is)
        have HXF := Aside0.mk HSF.out.drop.drop
        go_wp2_with (first | (refine wpList_load_midg (by rfl) 28 _ rfl w2.heap.size 0 rfl d2 _ HRG.out Try.underlying28 rfl (by rw [HDL2.out]; kernel_rfl) ?_) | (refine Own.wpList_store_row rfl 28 _ _ rfl w.heap.size rfl d2.toArray rfl 28 _ HXF.out.blk_is (by rw [List.size_toArray, HDL2.out]; kernel_rfl) (by rw [List.size_toArray, HDL2.out]; rfl) (fun v hv => HDO2.out v (by simpa using hv)) ?_))
        refine bodyPost_ret (results_ctt rfl _ _ w.heap.size 28 d2.toArray (0, 0) _ rfl (blk_row_set HXF.out d2.toArray).blk_is Try.underlying28 rfl (by rw [List.size_toArray, HDL2.out]; kernel_rfl)) rfl ⟨?_, (blk_row_set HXF.out d2.toArray).drop⟩
        rw [← HDD2.out]
        simp [nOf, newerR, hg, supOf]
      · have hg1 : decide ((supOf (some t)).gen > (supOf (some s)).gen) = false := decide_eq_false hg
        have hg2 : ¬ (supOf (some t)).gen > (supOf (some s)).gen := hg
        have HRG := Aside0.mk (range_all HSF.out.swap.blk_is)
        have HXF := Aside0.mk HSF.out.drop.drop
        go_wp2_with (first | (refine wpList_load_midg (by rfl) 28 _ rfl w1.heap.size 0 rfl d1 _ HRG.out Try.underlying28 rfl (by rw [HDL1.out]; kernel_rfl) ?_) | (refine Own.wpList_store_row rfl 28 _ _ rfl w.heap.size rfl d1.toArray rfl 28 _ HXF.out.blk_is (by rw [List.size_toArray, HDL1.out]; kernel_rfl) (by rw [List.size_toArray, HDL1.out]; rfl) (fun v hv => HDO1.out v (by simpa using hv)) ?_))
        refine bodyPost_ret (results_ctt rfl _ _ w.heap.size 28 d1.toArray (0, 0) _ rfl (blk_row_set HXF.out d1.toArray).blk_is Try.underlying28 rfl (by rw [List.size_toArray, HDL1.out]; kernel_rfl)) rfl ⟨?_, (blk_row_set HXF.out d1.toArray).drop⟩
        rw [← HDD1.out]
        rw [show nOf (some s) (some t) = (s, 0, 0) from by simp only [nOf, newerR, if_neg (show ¬ t.gen > s.gen from by omega)]]
        rfl
theorem ref_Newer.st {w0 w : World} {ps : List HP} (h : St w0 w ps) {A1 A2 : Option Addr} {n1 n2 c1 c2 : Nat} {la lb : List Int} (hr1 : Kd.C (Kd.int .u8) w A1 n1 la) (hc1 : n1 ≤ c1) (hn1 : n1 ≤ 1000) (hb1 : Bytes la) (hr2 : Kd.C (Kd.int .u8) w A2 n2 lb) (hc2 : n2 ≤ c2) (hn2 : n2 ≤ 1000) (hb2 : Bytes lb) :
    Calls Try.prog 14 #[.slice A1 n1 c1, .slice A2 n2 c2] w fun e w' => NewerPost w0 ps (readR la 0) (readR lb 1) e w' := by
  refine (ref_Newer.st0 hr1 hc1 hn1 hb1 hr2 hc2 hn2 hb2).mono ?_
  rintro e w' ⟨he, hs⟩
  exact ⟨he, h.trans hs⟩
end Go.Proofs.Ytjpebckmjlmkmaa.P
