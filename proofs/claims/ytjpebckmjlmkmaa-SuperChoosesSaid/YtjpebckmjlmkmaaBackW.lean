/- The law SuperBack, walked: what was written is read as it was, in its slot alone. -/
import Derived.Test.YtjpebckmjlmkmaaSup10
import Derived.Test.YtjpebckmjlmkmaaSup12
import Derived.Test.YtjpebckmjlmkmaaPx2
namespace Go.Proofs.Ytjpebckmjlmkmaa.P
open Go.RowKit Go.Proofs.YtjpebckmjlmkmaaW.PrintWords Go.Proofs.YtjpebckmjlmkmaaW.PrintLast Go.Proofs.YtjpebckmjlmkmaaW.PrintMore Go.Proofs.Ytjpebckmjlmkmaa.NumLem Go.Proofs.Ytjpebckmjlmkmaa.SealLem Go.Proofs.Ytjpebckmjlmkmaa.Sep
set_option linter.unusedVariables false
set_option linter.unusedSimpArgs false
/-- The place that a law turns a byte at. -/
theorem place_of (x : Int) : ∃ i : Nat, i < 256 ∧ ((Int.tmod x 256 < 0 ∧ wrap64 (-(Int.tmod x 256)) = (i : Int)) ∨ (¬ Int.tmod x 256 < 0 ∧ Int.tmod x 256 = (i : Int))) := by
  have h1 := Int.tmod_lt_of_pos x (show (0 : Int) < 256 by decide)
  have h2 := Int.tmod_lt_of_pos (-x) (show (0 : Int) < 256 by decide)
  rw [Int.neg_tmod] at h2
  generalize Int.tmod x 256 = y at *
  by_cases h : y < 0
  · exact ⟨(-y).toNat, by omega, Or.inl ⟨h, by unfold wrap64; omega⟩⟩
  · exact ⟨y.toNat, by omega, Or.inr ⟨h, by omega⟩⟩
theorem byte_of (x : Int) : 0 ≤ x % 256 ∧ x % 256 < 256 := by omega
set_option maxHeartbeats 4000000 in
set_option maxRecDepth 100000 in
theorem law_back (s : SupS) (hl : s.vols.length = 8) (hn : ∀ v ∈ s.vols, v.name.size ≤ 9223372036854775807) (slot x0 x1 : Int) (w : World) :
    Calls Try.prog 8 #[.agg s.cells.toArray, .int .i64 slot, .agg #[.int .i64 x0, .int .i64 x1]] w fun e w' => e = .returned (.bool true) ∧ Below w.heap.size w w' := by
  obtain ⟨dl, hdl⟩ : ∃ d, s.cells = d := ⟨_, rfl⟩
  have HW := Aside0.mk (fun {w0 W : World} {ps : List HP} (h : St w0 W ps) => hdl ▸ super_Write.st s hl hn slot h)
  have HDL := Aside0.mk (show dl.length = 35 from by rw [← hdl]; exact cells_length _ hl)
  have HDO := Aside0.mk (show ∀ v ∈ dl, v.oneCell' = true from by rw [← hdl]; exact fun v hv => cells_one _ v hv)
  have HEQ := Aside0.mk (show ∀ W, (binOp .eql 28 (.agg dl.toArray) (.agg dl.toArray)).run Try.prog W = .ok (.bool true) W from fun W => by rw [← hdl]; exact eql_sup _ hl W)
  have HDD := Aside0.mk hdl
  have HLS := Aside0.mk hl
  rw [hdl]
  have HS := Aside0.mk (show St w _ (blk (w.heap.size + 1) #[.int .i64 x0, .int .i64 x1] 45 :: blk w.heap.size dl.toArray 28 :: []) from by
    have := ((St.start w).alloc_ dl.toArray 28).alloc_ #[.int .i64 x0, .int .i64 x1] 45
    simpa using this)
  obtain ⟨r, hr⟩ : ∃ r, writeR s slot = r := ⟨_, rfl⟩
  rw [hr] at HW
  have HWR := Aside0.mk hr
  clear hl hn hdl hr
  obtain ⟨l, er⟩ := r
  go_enter Try.func8, Try.ntmps8
  go_wp2_with fail
  refine (cambiumlaw07_shown.calls true _ rfl).mono ?_
  rintro e w1 ⟨rfl, hb⟩
  have HS1 := Aside0.mk (HS.out.below_ hb)
  have HRG := Aside0.mk (show w1.rangeAt w.heap.size 0 dl from by have := range_all HS1.out.swap.blk_is; simpa using this)
  clear hb HS
  go_wp2_with (refine wpList_load_midg (by rfl) 28 _ rfl w.heap.size 0 rfl dl _ HRG.out Try.underlying28 rfl (by rw [HDL.out]; kernel_rfl) ?_)
  refine (HW.out HS1.out).mono ?_
  rintro e w2 ⟨A, m, c, rfl, hs2⟩
  have HS2 := Aside0.mk hs2
  clear hs2 HRG HW HS1
  by_cases hm : mayR s = true ∧ slotOk slot
  case neg =>
    have hw := HWR.out
    unfold writeR at hw
    rw [if_neg hm] at hw
    obtain ⟨rfl, rfl⟩ : [] = l ∧ 1 = er := ⟨congrArg Prod.fst hw, congrArg Prod.snd hw⟩
    have hm0 : m = 0 := HS2.out.row_C.1
    subst hm0
    clear hw hm
    go_wp2_with fail
    go_ret
    exact ⟨rfl, HS2.out.below⟩
  have hw := HWR.out
  unfold writeR at hw
  rw [if_pos hm] at hw
  obtain rfl : 0 = er := congrArg Prod.snd hw
  have HSL := Aside0.mk hm.2
  have HWO := Aside0.mk (write_opens HLS.out HWR.out)
  have hm6 : m = 256 := by rw [HS2.out.row_C.1]; exact HWO.out.2.2.1
  subst hm6
  have HBY := Aside0.mk (show Bytes l from HWO.out.2.2.2.1)
  have HRD := Aside0.mk (show readR l slot = some s from read_write HLS.out HWR.out)
  have HRN := Aside0.mk (show readR l (1 - slot) = none from read_slot HLS.out HWR.out _ (by have := hm.2; unfold slotOk at this; omega))
  have HE1 := Aside0.mk (show wrap64 (1 - slot) = 1 - slot from by have := hm.2; unfold slotOk at this; unfold wrap64; omega)
  clear hw hm
  go_wp2_with fail
  refine (super_Read.st HS2.out HS2.out.row_C.2.2 HS2.out.row_C.2.1 (by decide) HBY.out slot).mono ?_
  rintro e w3 ⟨rfl, hs3⟩
  rw [HRD.out, show (supOf (some s)).cells = dl from HDD.out, show errOf (some s) = 0 from rfl]
  have HX3 := Aside0.mk (hs3.alloc_ Z35 28)
  have HS3 := Aside0.mk (blk_row_set HX3.out dl.toArray)
  have e1 := HE1.out
  clear hs3
  go_wp2_with (refine Own.wpList_store_row rfl 28 _ _ rfl w3.heap.size rfl dl.toArray rfl 28 _ HX3.out.blk_is (by rw [List.size_toArray, HDL.out]; kernel_rfl) (by rw [List.size_toArray, HDL.out]; rfl) (fun v hv => HDO.out v (by simpa using hv)) ?_)
  refine (super_Read.st HS3.out HS3.out.swap.row_C.2.2 HS3.out.swap.row_C.2.1 (by decide) HBY.out (1 - slot)).mono ?_
  rintro e w4 ⟨rfl, hs4⟩
  rw [HRN.out, show (supOf none).cells.toArray = Z35 from rfl, show errOf none = 3 from rfl]
  have HX4 := Aside0.mk (hs4.alloc_ Z35 28)
  obtain ⟨w5, hw5⟩ : ∃ W, (w4.alloc (.cells Z35 28)).setRow w4.heap.size Z35 = W := ⟨_, rfl⟩
  have hs5 := blk_row_set HX4.out Z35
  rw [hw5] at hs5
  conv at hw5 => lhs; arg 1; unfold Z35
  have HW5 := Aside0.mk hw5
  have HS5 := Aside0.mk hs5.drop
  clear hs4 hw5 hs5
  have hx := (HS5.out.front 2)
  have q0 := blk_cell hx.blk_is 0
  have q1 := blk_cell hx.blk_is 1
  clear hx e1
  go_upto_if 59 with (refine Own.wpList_store_row rfl 28 _ _ rfl w4.heap.size rfl Z35 rfl 28 _ HX4.out.blk_is (by kernel_rfl) rfl Z35_one ?_; rw [HW5.out])
  obtain ⟨i, hi, hpl⟩ := place_of x0
  have HI := Aside0.mk hi
  have HPL := Aside0.mk hpl
  clear hi hpl
  go_cut [14] (fun v wx => v = .int .i64 (i : Int) ∧ w5 = wx)
  case first =>
    rcases HPL.out with ⟨h1, h2⟩ | ⟨h1, h2⟩
    · have h3 : decide (Int.tmod x0 256 < 0) = true := decide_eq_true h1
      go_wp2_with fail
      go_meet
      exact ⟨by first | rw [h2] | rfl, rfl⟩
    · have h3 : decide (Int.tmod x0 256 < 0) = false := decide_eq_false h1
      go_wp2_with fail
      go_meet
      exact ⟨by first | rw [h2] | rfl, rfl⟩
  case rest =>
  obtain ⟨rfl, rfl⟩ := hcut
  clear HPL
  go_upto_if 66 with fail
  obtain ⟨y, hy⟩ : ∃ y, (if x1 % 256 = 0 then (1 : Int) else x1 % 256) = y := ⟨_, rfl⟩
  have HYR := Aside0.mk (show (0 ≤ y ∧ y < 256) ∧ y ≠ 0 from by rw [← hy]; split <;> omega)
  have HY := Aside0.mk hy
  clear hy
  go_cut [15] (fun v wx => v = .int .u8 y ∧ w5 = wx)
  case first =>
    by_cases h1 : x1 % 256 = 0
    · have h2 : (x1 % 256 == 0) = true := by simpa using h1
      have hy : (1 : Int) = y := by rw [← HY.out, if_pos h1]
      clear h1
      go_wp2_with fail
      go_meet
      exact ⟨by rw [hy], rfl⟩
    · have h2 : (x1 % 256 == 0) = false := by simpa using h1
      have hy : x1 % 256 = y := by rw [← HY.out, if_neg h1]
      clear h1
      go_wp2_with fail
      go_meet
      exact ⟨by first | rw [hy] | rfl, rfl⟩
  case rest =>
  obtain ⟨rfl, rfl⟩ := hcut
  clear HY q0 q1
  have hi2 : i < 256 := HI.out
  obtain ⟨gb, rfl, hcell, hfro, hset⟩ := (HS5.out.swap).row_at i hi2 0
  obtain ⟨z, hz⟩ : ∃ z, l.getD i 0 = z := ⟨_, rfl⟩
  rw [hz] at hcell
  have hil : i < l.length := by rw [HWO.out.2.2.1]; exact hi2
  have hzz : l[i] = z := by rw [← hz, List.getD_eq_getElem?_getD, List.getElem?_eq_getElem hil]; rfl
  have hzr := HBY.out _ (List.getElem_mem hil)
  rw [hzz] at hzr
  obtain ⟨x, hx⟩ : ∃ x, Go.bits .xor .u8 z y = x := ⟨_, rfl⟩
  have ht := turned_ne z y hzr HYR.out.1 HYR.out.2
  rw [hx] at ht
  have HSX := Aside0.mk (hset x)
  have HRT := Aside0.mk (show readR (l.set i x) slot = none from read_turned HLS.out HWR.out slot i hil x ht.1 (by rw [hzz]; exact ht.2))
  have HBX := Aside0.mk (show Bytes (l.set i x) from fun u hu => by
    rcases List.mem_or_eq_of_mem_set hu with h | h
    · exact HBY.out u h
    · rw [h]; exact ht.1)
  have l1 : (i : Int) < 256 := by omega
  have HXX := Aside0.mk hx
  clear hset hz hil hzz hzr ht hi2 hx
  go_wp2_with fail
  rw [HXX.out]
  refine (super_Read.st HSX.out HSX.out.row_C.2.2 HSX.out.row_C.2.1 (by decide) HBX.out slot).mono ?_
  rintro e w6 ⟨rfl, hs6⟩
  rw [HRT.out, show (supOf none).cells.toArray = Z35 from rfl, show errOf none = 3 from rfl]
  have HX6 := Aside0.mk (hs6.alloc_ Z35 28)
  obtain ⟨w7, hw7⟩ : ∃ W, (w6.alloc (.cells Z35 28)).setRow w6.heap.size Z35 = W := ⟨_, rfl⟩
  have hs7 := blk_row_set HX6.out Z35
  rw [hw7] at hs7
  conv at hw7 => lhs; arg 1; unfold Z35
  have HW7 := Aside0.mk hw7
  have HS7 := Aside0.mk hs7.drop
  have HG1 := Aside0.mk (show w7.rangeAt w3.heap.size 0 dl from by have := range_all (HS7.out.swap).blk_is; simpa using this)
  have HG2 := Aside0.mk (show w7.rangeAt w.heap.size 0 dl from by have := range_all (HS7.out.front 3).blk_is; simpa using this)
  clear hs6 hw7 hs7 hcell hfro
  go_wp2_with (first | (refine Own.wpList_store_row rfl 28 _ _ rfl w6.heap.size rfl Z35 rfl 28 _ HX6.out.blk_is (by kernel_rfl) rfl Z35_one ?_; rw [HW7.out]) | (refine wpList_load_midg (by rfl) 28 _ rfl w3.heap.size 0 rfl dl _ HG1.out Try.underlying28 rfl (by rw [HDL.out]; kernel_rfl) ?_) | (refine wpList_load_midg (by rfl) 28 _ rfl w.heap.size 0 rfl dl _ HG2.out Try.underlying28 rfl (by rw [HDL.out]; kernel_rfl) ?_) | (refine wpList_eqlg (by rfl) 28 28 (.tmp 84) (.tmp 85) rfl dl.toArray dl.toArray rfl rfl true (by kernel_rfl) (HEQ.out _) (some 86) rfl ?_))
  go_ret
  exact ⟨rfl, HS7.out.below⟩
theorem SuperBack_law (z0f0_n : Int) (z0f1_n : Int) (z0f2_n : Int) (z0f3_f0_f0_n : ByteArray) (z0f3_f0_f1_n : Bool) (z0f3_f0_f2_n : Int) (z0f3_f0_f3_n : Int) (z0f3_f1_f0_n : ByteArray) (z0f3_f1_f1_n : Bool) (z0f3_f1_f2_n : Int) (z0f3_f1_f3_n : Int) (z0f3_f2_f0_n : ByteArray) (z0f3_f2_f1_n : Bool) (z0f3_f2_f2_n : Int) (z0f3_f2_f3_n : Int) (z0f3_f3_f0_n : ByteArray) (z0f3_f3_f1_n : Bool) (z0f3_f3_f2_n : Int) (z0f3_f3_f3_n : Int) (z0f3_f4_f0_n : ByteArray) (z0f3_f4_f1_n : Bool) (z0f3_f4_f2_n : Int) (z0f3_f4_f3_n : Int) (z0f3_f5_f0_n : ByteArray) (z0f3_f5_f1_n : Bool) (z0f3_f5_f2_n : Int) (z0f3_f5_f3_n : Int) (z0f3_f6_f0_n : ByteArray) (z0f3_f6_f1_n : Bool) (z0f3_f6_f2_n : Int) (z0f3_f6_f3_n : Int) (z0f3_f7_f0_n : ByteArray) (z0f3_f7_f1_n : Bool) (z0f3_f7_f2_n : Int) (z0f3_f7_f3_n : Int) (z1n : Int) (z2f0_n : Int) (z2f1_n : Int) (w : World) (h0 : Aside0 ((Lit.int .i64 z0f0_n).wf = true ∧ (Lit.int .i64 z0f1_n).wf = true ∧ (Lit.int .i64 z0f2_n).wf = true ∧ z0f3_f0_f0_n.size ≤ maxLen ∧ True ∧ (Lit.int .i64 z0f3_f0_f2_n).wf = true ∧ (Lit.int .i64 z0f3_f0_f3_n).wf = true ∧ z0f3_f1_f0_n.size ≤ maxLen ∧ True ∧ (Lit.int .i64 z0f3_f1_f2_n).wf = true ∧ (Lit.int .i64 z0f3_f1_f3_n).wf = true ∧ z0f3_f2_f0_n.size ≤ maxLen ∧ True ∧ (Lit.int .i64 z0f3_f2_f2_n).wf = true ∧ (Lit.int .i64 z0f3_f2_f3_n).wf = true ∧ z0f3_f3_f0_n.size ≤ maxLen ∧ True ∧ (Lit.int .i64 z0f3_f3_f2_n).wf = true ∧ (Lit.int .i64 z0f3_f3_f3_n).wf = true ∧ z0f3_f4_f0_n.size ≤ maxLen ∧ True ∧ (Lit.int .i64 z0f3_f4_f2_n).wf = true ∧ (Lit.int .i64 z0f3_f4_f3_n).wf = true ∧ z0f3_f5_f0_n.size ≤ maxLen ∧ True ∧ (Lit.int .i64 z0f3_f5_f2_n).wf = true ∧ (Lit.int .i64 z0f3_f5_f3_n).wf = true ∧ z0f3_f6_f0_n.size ≤ maxLen ∧ True ∧ (Lit.int .i64 z0f3_f6_f2_n).wf = true ∧ (Lit.int .i64 z0f3_f6_f3_n).wf = true ∧ z0f3_f7_f0_n.size ≤ maxLen ∧ True ∧ (Lit.int .i64 z0f3_f7_f2_n).wf = true ∧ (Lit.int .i64 z0f3_f7_f3_n).wf = true)) (h1 : Aside0 ((Lit.int .i64 z1n).wf = true)) (h2 : Aside0 ((Lit.int .i64 z2f0_n).wf = true ∧ (Lit.int .i64 z2f1_n).wf = true)) :
    Calls Try.prog 8 #[.agg #[.int .i64 z0f0_n, .int .i64 z0f1_n, .int .i64 z0f2_n, .string z0f3_f0_f0_n, .bool z0f3_f0_f1_n, .int .i64 z0f3_f0_f2_n, .int .i64 z0f3_f0_f3_n, .string z0f3_f1_f0_n, .bool z0f3_f1_f1_n, .int .i64 z0f3_f1_f2_n, .int .i64 z0f3_f1_f3_n, .string z0f3_f2_f0_n, .bool z0f3_f2_f1_n, .int .i64 z0f3_f2_f2_n, .int .i64 z0f3_f2_f3_n, .string z0f3_f3_f0_n, .bool z0f3_f3_f1_n, .int .i64 z0f3_f3_f2_n, .int .i64 z0f3_f3_f3_n, .string z0f3_f4_f0_n, .bool z0f3_f4_f1_n, .int .i64 z0f3_f4_f2_n, .int .i64 z0f3_f4_f3_n, .string z0f3_f5_f0_n, .bool z0f3_f5_f1_n, .int .i64 z0f3_f5_f2_n, .int .i64 z0f3_f5_f3_n, .string z0f3_f6_f0_n, .bool z0f3_f6_f1_n, .int .i64 z0f3_f6_f2_n, .int .i64 z0f3_f6_f3_n, .string z0f3_f7_f0_n, .bool z0f3_f7_f1_n, .int .i64 z0f3_f7_f2_n, .int .i64 z0f3_f7_f3_n], .int .i64 z1n, .agg #[.int .i64 z2f0_n, .int .i64 z2f1_n]] w fun e w' => e = .returned (.bool true) ∧ Below w.heap.size w w' := by
  have hn0 : ∀ v ∈ (⟨z0f0_n, z0f1_n, z0f2_n, [⟨z0f3_f0_f0_n, z0f3_f0_f1_n, z0f3_f0_f2_n, z0f3_f0_f3_n⟩, ⟨z0f3_f1_f0_n, z0f3_f1_f1_n, z0f3_f1_f2_n, z0f3_f1_f3_n⟩, ⟨z0f3_f2_f0_n, z0f3_f2_f1_n, z0f3_f2_f2_n, z0f3_f2_f3_n⟩, ⟨z0f3_f3_f0_n, z0f3_f3_f1_n, z0f3_f3_f2_n, z0f3_f3_f3_n⟩, ⟨z0f3_f4_f0_n, z0f3_f4_f1_n, z0f3_f4_f2_n, z0f3_f4_f3_n⟩, ⟨z0f3_f5_f0_n, z0f3_f5_f1_n, z0f3_f5_f2_n, z0f3_f5_f3_n⟩, ⟨z0f3_f6_f0_n, z0f3_f6_f1_n, z0f3_f6_f2_n, z0f3_f6_f3_n⟩, ⟨z0f3_f7_f0_n, z0f3_f7_f1_n, z0f3_f7_f2_n, z0f3_f7_f3_n⟩]⟩ : SupS).vols, v.name.size ≤ 9223372036854775807 := by
    obtain ⟨_, _, _, n0, _, _, _, n1, _, _, _, n2, _, _, _, n3, _, _, _, n4, _, _, _, n5, _, _, _, n6, _, _, _, n7, _, _, _⟩ := h0.out
    intro v hv
    simp only [List.mem_cons, List.not_mem_nil, or_false] at hv
    rcases hv with rfl | rfl | rfl | rfl | rfl | rfl | rfl | rfl
    · exact n0
    · exact n1
    · exact n2
    · exact n3
    · exact n4
    · exact n5
    · exact n6
    · exact n7
  exact law_back (⟨z0f0_n, z0f1_n, z0f2_n, [⟨z0f3_f0_f0_n, z0f3_f0_f1_n, z0f3_f0_f2_n, z0f3_f0_f3_n⟩, ⟨z0f3_f1_f0_n, z0f3_f1_f1_n, z0f3_f1_f2_n, z0f3_f1_f3_n⟩, ⟨z0f3_f2_f0_n, z0f3_f2_f1_n, z0f3_f2_f2_n, z0f3_f2_f3_n⟩, ⟨z0f3_f3_f0_n, z0f3_f3_f1_n, z0f3_f3_f2_n, z0f3_f3_f3_n⟩, ⟨z0f3_f4_f0_n, z0f3_f4_f1_n, z0f3_f4_f2_n, z0f3_f4_f3_n⟩, ⟨z0f3_f5_f0_n, z0f3_f5_f1_n, z0f3_f5_f2_n, z0f3_f5_f3_n⟩, ⟨z0f3_f6_f0_n, z0f3_f6_f1_n, z0f3_f6_f2_n, z0f3_f6_f3_n⟩, ⟨z0f3_f7_f0_n, z0f3_f7_f1_n, z0f3_f7_f2_n, z0f3_f7_f3_n⟩]⟩ : SupS) rfl hn0 z1n z2f0_n z2f1_n w

end Go.Proofs.Ytjpebckmjlmkmaa.P
