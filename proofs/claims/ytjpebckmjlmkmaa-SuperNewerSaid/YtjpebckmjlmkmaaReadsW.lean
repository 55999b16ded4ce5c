/- The law SuperReads, walked: both functions read the same. -/
import Derived.Test.YtjpebckmjlmkmaaSup10
import Derived.Test.YtjpebckmjlmkmaaSup11
import Derived.Test.YtjpebckmjlmkmaaSup12
import Derived.Test.YtjpebckmjlmkmaaPx2
namespace Go.Proofs.Ytjpebckmjlmkmaa.P
open Go.RowKit Go.Proofs.YtjpebckmjlmkmaaW.PrintWords Go.Proofs.YtjpebckmjlmkmaaW.PrintLast Go.Proofs.YtjpebckmjlmkmaaW.PrintMore Go.Proofs.Ytjpebckmjlmkmaa.NumLem Go.Proofs.Ytjpebckmjlmkmaa.SealLem Go.Proofs.Ytjpebckmjlmkmaa.Sep
set_option linter.unusedVariables false
set_option linter.unusedSimpArgs false
/-- A row of bytes that a law speaks of: 300 at most. -/
theorem bytes300 {w : World} {A : Option Addr} {c : Nat} {l : List Int} (h : Kd.C (Kd.int .u8) w A l.length l) (hc : l.length ≤ c) (hb : ∀ y ∈ l, (Lit.int .u8 y).wf = true) (hl : (l.length : Int) > 300) :
    (∀ W, (Instr.slice 22 (.slice A l.length c) none (some (.int .i64 300)) none).run Try.prog W = .ok (.slice A 300 c) W) ∧ Kd.C (Kd.int .u8) w A 300 (l.take 300) ∧ 300 ≤ c := by
  obtain ⟨inf, hinf⟩ := Option.isSome_iff_exists.1 (show (Try.prog.info? 5).isSome = true from by kernel_rfl)
  refine ⟨cut_to (P := Try.prog) 22 5 .i64 Try.underlying22 hinf A l.length c 300 (by decide) (by omega) hc, ?_, by omega⟩
  have := Kd.C_take (m := 300) h (by omega)
  rwa [List.length_take, Nat.min_eq_left (by omega)] at this
set_option maxHeartbeats 4000000 in
set_option maxRecDepth 100000 in
theorem SuperReads_law (z0A : Option Addr) (z0c : Nat) (z0l : (List Int)) (z1n : Int) (w : World) (h0 : Aside0 (z0l.length ≤ z0c ∧ Kd.C (Kd.int .u8) w z0A z0l.length z0l ∧ (z0l.length ≤ maxLen ∧ ∀ y0_ ∈ z0l, (Lit.int .u8 y0_).wf = true))) (h1 : Aside0 ((Lit.int .i64 z1n).wf = true)) :
    Calls Try.prog 3 #[.slice z0A z0l.length z0c, .int .i64 z1n] w fun e w' => e = .returned (.bool true) ∧ Below w.heap.size w w' := by
  obtain ⟨hle, hC, hmax, hwf⟩ := h0.out
  have HBB := Aside0.mk (Bytes.of_wf hwf)
  by_cases h300 : (z0l.length : Int) > 300
  · obtain ⟨hsl, h2, h3⟩ := bytes300 hC hle hwf h300
    obtain ⟨l, hl⟩ : ∃ l, z0l.take 300 = l := ⟨_, rfl⟩
    have HB := Aside0.mk (show Bytes l from hl ▸ HBB.out.take 300)
    have HR := Aside0.mk (show Kd.C (Kd.int .u8) w z0A 300 l from hl ▸ h2)
    have HN := Aside0.mk (show 300 ≤ 300 from Nat.le_refl _)
    have HC := Aside0.mk (show 300 ≤ z0c from h3)
    have ht : decide ((z0l.length : Int) > 300) = true := decide_eq_true h300
    clear hle hC hmax hwf hl h2 h3
    go_enter Try.func3, Try.ntmps3
    go_wp2_with fail
    refine (cambiumlaw07_shown.calls true _ rfl).mono ?_
    rintro e w1 ⟨rfl, hb⟩
    have HS1 := Aside0.mk ((St.start w).below_ hb)
    clear hb
    have HE : Aside0 (St w (w1.alloc (.cells #[] 5)) [row (Kd.int .u8) 5 (.slice (some ⟨w1.heap.size, 0, none⟩) 0 0) ([] : List Int)]) := Aside0.mk (St.row_empty (enc := Value.int .u8) (h1 := fun _ => rfl) HS1.out 5)
    go_wp2_with (first | ((with_reducible refine gate_builtin (b := .append) (xs := #[.tmp 17, .tmp 18]) rfl ?_); at_builtin; refine St.append_rows (d := Kd.int .u8) rfl (.tmp 17) (.tmp 18) 22 5 (.int .u8 0) 1 rfl Try.underlying22 info5' rfl (by decide) (by decide) _ [] l _ _ _ rfl rfl HE.out (Kd.C_below HR.out HE.out.below) (fun _ _ h => h) (show (([] : List Int).length + 300) * 1 ≤ 140737488355328 from by have := HN.out; simp only [List.length_nil]; omega) ?_; intro v6 w6 hs6; rw [List.nil_append] at hs6; obtain ⟨A6, c6, he6⟩ := hs6.row_slice; obtain ⟨m6, hm6⟩ : ∃ m, l.length = m := ⟨_, rfl⟩; rw [hm6] at he6; subst he6; have HS6 := Aside0.mk hs6; have HM6 := Aside0.mk (show m6 ≤ 300 from by rw [← hm6, HR.out.1]; exact HN.out); clear hs6 hm6))
    refine (super_Read.st HS6.out HS6.out.row_C.2.2 HS6.out.row_C.2.1 (by have := HM6.out; omega) HB.out z1n).mono ?_
    rintro e w7 ⟨rfl, hs7⟩
    obtain ⟨r, hr⟩ : ∃ r, readR l z1n = r := ⟨_, rfl⟩
    have HRL := Aside0.mk (show (supOf r).vols.length = 8 from hr ▸ supOf_len l z1n)
    have HRF := Aside0.mk (show refReadR l z1n = r from by rw [← read_same l HB.out]; exact hr)
    rw [hr]
    obtain ⟨dl, hdl⟩ : ∃ d, (supOf r).cells = d := ⟨_, rfl⟩
    have HDL := Aside0.mk (show dl.length = 35 from by rw [← hdl]; exact cells_length _ HRL.out)
    have HDO := Aside0.mk (show ∀ v ∈ dl, v.oneCell' = true from by rw [← hdl]; exact fun v hv => cells_one _ v hv)
    have HEQ := Aside0.mk (show ∀ W, (binOp .eql 28 (.agg dl.toArray) (.agg dl.toArray)).run Try.prog W = .ok (.bool true) W from fun W => by rw [← hdl]; exact eql_sup _ HRL.out W)
    have HDD := Aside0.mk hdl
    rw [hdl]
    obtain ⟨er, her⟩ : ∃ x, errOf r = x := ⟨_, rfl⟩
    rw [her]
    have HER := Aside0.mk her
    have HS7 := Aside0.mk hs7.drop
    have HS8 := Aside0.mk (hs7.drop.alloc_ Z35 28)
    have HS9 := Aside0.mk (blk_row_set HS8.out dl.toArray)
    clear hs7 hr hdl her
    go_wp2_with (refine Own.wpList_store_row rfl 28 _ _ rfl w7.heap.size rfl dl.toArray rfl 28 _ HS8.out.blk_is (by rw [List.size_toArray, HDL.out]; kernel_rfl) (by rw [List.size_toArray, HDL.out]; rfl) (fun v hv => HDO.out v (by simpa using hv)) ?_)
    refine (ref_Read.st HS9.out (Kd.C_below HR.out HS9.out.below) HC.out (by have := HN.out; omega) HB.out z1n).mono ?_
    rintro e wa ⟨rfl, hsa⟩
    rw [HRF.out, HDD.out, HER.out]
    have HSA := Aside0.mk (hsa.alloc_ Z35 28)
    have HSB := Aside0.mk (blk_row_set HSA.out dl.toArray)
    have HG1 := Aside0.mk (range_all HSB.out.swap.blk_is)
    have HG2 := Aside0.mk (range_all HSB.out.blk_is)
    clear hsa
    go_wp2_with (first | (refine Own.wpList_store_row rfl 28 _ _ rfl wa.heap.size rfl dl.toArray rfl 28 _ HSA.out.blk_is (by rw [List.size_toArray, HDL.out]; kernel_rfl) (by rw [List.size_toArray, HDL.out]; rfl) (fun v hv => HDO.out v (by simpa using hv)) ?_) | (refine wpList_load_midg (by rfl) 28 _ rfl w7.heap.size 0 rfl dl _ HG1.out Try.underlying28 rfl (by rw [HDL.out]; kernel_rfl) ?_) | (refine wpList_load_midg (by rfl) 28 _ rfl wa.heap.size 0 rfl dl _ HG2.out Try.underlying28 rfl (by rw [HDL.out]; kernel_rfl) ?_) | (refine wpList_eqlg (by rfl) 28 28 (.tmp 32) (.tmp 33) rfl dl.toArray dl.toArray rfl rfl true (by kernel_rfl) (HEQ.out _) (some 34) rfl ?_))
    go_ret
    exact ⟨by simp, HSB.out.below⟩
  · obtain ⟨l, hl⟩ : ∃ l, z0l = l := ⟨_, rfl⟩
    have HB := Aside0.mk (show Bytes l from hl ▸ HBB.out)
    have HR := Aside0.mk (show Kd.C (Kd.int .u8) w z0A z0l.length l from hl ▸ hC)
    have HN := Aside0.mk (show z0l.length ≤ 300 from by omega)
    have HC := Aside0.mk (show z0l.length ≤ z0c from hle)
    have ht : decide ((z0l.length : Int) > 300) = false := decide_eq_false h300
    clear hle hC hmax hwf hl h0
    go_enter Try.func3, Try.ntmps3
    go_wp2_with fail
    refine (cambiumlaw07_shown.calls true _ rfl).mono ?_
    rintro e w1 ⟨rfl, hb⟩
    have HS1 := Aside0.mk ((St.start w).below_ hb)
    clear hb
    have HE : Aside0 (St w (w1.alloc (.cells #[] 5)) [row (Kd.int .u8) 5 (.slice (some ⟨w1.heap.size, 0, none⟩) 0 0) ([] : List Int)]) := Aside0.mk (St.row_empty (enc := Value.int .u8) (h1 := fun _ => rfl) HS1.out 5)
    go_wp2_with (first | ((with_reducible refine gate_builtin (b := .append) (xs := #[.tmp 17, .tmp 18]) rfl ?_); at_builtin; refine St.append_rows (d := Kd.int .u8) rfl (.tmp 17) (.tmp 18) 22 5 (.int .u8 0) 1 rfl Try.underlying22 info5' rfl (by decide) (by decide) _ [] l _ _ _ rfl rfl HE.out (Kd.C_below HR.out HE.out.below) (fun _ _ h => h) (show (([] : List Int).length + z0l.length) * 1 ≤ 140737488355328 from by have := HN.out; simp only [List.length_nil]; omega) ?_; intro v6 w6 hs6; rw [List.nil_append] at hs6; obtain ⟨A6, c6, he6⟩ := hs6.row_slice; obtain ⟨m6, hm6⟩ : ∃ m, l.length = m := ⟨_, rfl⟩; rw [hm6] at he6; subst he6; have HS6 := Aside0.mk hs6; have HM6 := Aside0.mk (show m6 ≤ 300 from by rw [← hm6, HR.out.1]; exact HN.out); clear hs6 hm6))
    refine (super_Read.st HS6.out HS6.out.row_C.2.2 HS6.out.row_C.2.1 (by have := HM6.out; omega) HB.out z1n).mono ?_
    rintro e w7 ⟨rfl, hs7⟩
    obtain ⟨r, hr⟩ : ∃ r, readR l z1n = r := ⟨_, rfl⟩
    have HRL := Aside0.mk (show (supOf r).vols.length = 8 from hr ▸ supOf_len l z1n)
    have HRF := Aside0.mk (show refReadR l z1n = r from by rw [← read_same l HB.out]; exact hr)
    rw [hr]
    obtain ⟨dl, hdl⟩ : ∃ d, (supOf r).cells = d := ⟨_, rfl⟩
    have HDL := Aside0.mk (show dl.length = 35 from by rw [← hdl]; exact cells_length _ HRL.out)
    have HDO := Aside0.mk (show ∀ v ∈ dl, v.oneCell' = true from by rw [← hdl]; exact fun v hv => cells_one _ v hv)
    have HEQ := Aside0.mk (show ∀ W, (binOp .eql 28 (.agg dl.toArray) (.agg dl.toArray)).run Try.prog W = .ok (.bool true) W from fun W => by rw [← hdl]; exact eql_sup _ HRL.out W)
    have HDD := Aside0.mk hdl
    rw [hdl]
    obtain ⟨er, her⟩ : ∃ x, errOf r = x := ⟨_, rfl⟩
    rw [her]
    have HER := Aside0.mk her
    have HS7 := Aside0.mk hs7.drop
    have HS8 := Aside0.mk (hs7.drop.alloc_ Z35 28)
    have HS9 := Aside0.mk (blk_row_set HS8.out dl.toArray)
    clear hs7 hr hdl her
    go_wp2_with (refine Own.wpList_store_row rfl 28 _ _ rfl w7.heap.size rfl dl.toArray rfl 28 _ HS8.out.blk_is (by rw [List.size_toArray, HDL.out]; kernel_rfl) (by rw [List.size_toArray, HDL.out]; rfl) (fun v hv => HDO.out v (by simpa using hv)) ?_)
    refine (ref_Read.st HS9.out (Kd.C_below HR.out HS9.out.below) HC.out (by have := HN.out; omega) HB.out z1n).mono ?_
    rintro e wa ⟨rfl, hsa⟩
    rw [HRF.out, HDD.out, HER.out]
    have HSA := Aside0.mk (hsa.alloc_ Z35 28)
    have HSB := Aside0.mk (blk_row_set HSA.out dl.toArray)
    have HG1 := Aside0.mk (range_all HSB.out.swap.blk_is)
    have HG2 := Aside0.mk (range_all HSB.out.blk_is)
    clear hsa
    go_wp2_with (first | (refine Own.wpList_store_row rfl 28 _ _ rfl wa.heap.size rfl dl.toArray rfl 28 _ HSA.out.blk_is (by rw [List.size_toArray, HDL.out]; kernel_rfl) (by rw [List.size_toArray, HDL.out]; rfl) (fun v hv => HDO.out v (by simpa using hv)) ?_) | (refine wpList_load_midg (by rfl) 28 _ rfl w7.heap.size 0 rfl dl _ HG1.out Try.underlying28 rfl (by rw [HDL.out]; kernel_rfl) ?_) | (refine wpList_load_midg (by rfl) 28 _ rfl wa.heap.size 0 rfl dl _ HG2.out Try.underlying28 rfl (by rw [HDL.out]; kernel_rfl) ?_) | (refine wpList_eqlg (by rfl) 28 28 (.tmp 32) (.tmp 33) rfl dl.toArray dl.toArray rfl rfl true (by kernel_rfl) (HEQ.out _) (some 34) rfl ?_))
    go_ret
    exact ⟨by simp, HSB.out.below⟩
end Go.Proofs.Ytjpebckmjlmkmaa.P
