/- The law SuperNewer, walked: of two rows both functions take the same one. -/
import Derived.Test.YtjpebckmjlmkmaaNewerF
import Derived.Test.YtjpebckmjlmkmaaReadsW
namespace Go.Proofs.Ytjpebckmjlmkmaa.P
open Go.RowKit Go.Proofs.YtjpebckmjlmkmaaW.PrintWords Go.Proofs.YtjpebckmjlmkmaaW.PrintLast Go.Proofs.YtjpebckmjlmkmaaW.PrintMore Go.Proofs.Ytjpebckmjlmkmaa.NumLem Go.Proofs.Ytjpebckmjlmkmaa.SealLem Go.Proofs.Ytjpebckmjlmkmaa.Sep
set_option linter.unusedVariables false
set_option linter.unusedSimpArgs false
theorem nOf_len (la lb : List Int) (x y : Int) : (nOf (readR la x) (readR lb y)).1.vols.length = 8 := by
  cases ha : readR la x with
  | none =>
    cases hb : readR lb y with
    | none => rfl
    | some t => exact read_len hb
  | some s =>
    cases hb : readR lb y with
    | none => exact read_len ha
    | some t =>
      by_cases hg : t.gen > s.gen
      · simp only [nOf, newerR, if_pos hg]; exact read_len hb
      · simp only [nOf, newerR, if_neg hg]; exact read_len ha
set_option maxHeartbeats 4000000 in
set_option maxRecDepth 100000 in
theorem SuperNewer_law (z0A : Option Addr) (z0c : Nat) (z0l : (List Int)) (z1A : Option Addr) (z1c : Nat) (z1l : (List Int)) (w : World) (h0 : Aside0 (z0l.length ≤ z0c ∧ Kd.C (Kd.int .u8) w z0A z0l.length z0l ∧ (z0l.length ≤ maxLen ∧ ∀ y0_ ∈ z0l, (Lit.int .u8 y0_).wf = true))) (h1 : Aside0 (z1l.length ≤ z1c ∧ Kd.C (Kd.int .u8) w z1A z1l.length z1l ∧ (z1l.length ≤ maxLen ∧ ∀ y0_ ∈ z1l, (Lit.int .u8 y0_).wf = true))) :
    Calls Try.prog 4 #[.slice z0A z0l.length z0c, .slice z1A z1l.length z1c] w fun e w' => e = .returned (.bool true) ∧ Below w.heap.size w w' := by
  go_enter Try.func4, Try.ntmps4
  go_wp2_with fail
  refine (cambiumlaw07_shown.calls true _ rfl).mono ?_
  rintro e w1 ⟨rfl, hb⟩
  have HS1 := Aside0.mk ((St.start w).below_ hb)
  clear hb
  go_upto_if 15 with fail
  go_cut [0] (fun v wx => ∃ (n : Nat) (l : List Int), v = .slice z0A n z0c ∧ Aside0 (Kd.C (Kd.int .u8) w z0A n l ∧ n ≤ 300 ∧ n ≤ z0c ∧ Bytes l) ∧ w1 = wx)
  case first =>
    by_cases h300 : (z0l.length : Int) > 300
    · have ht : decide ((z0l.length : Int) > 300) = true := decide_eq_true h300
      obtain ⟨hsl, h2, h3⟩ := bytes300 h0.out.2.1 h0.out.1 h0.out.2.2.2 h300
      have HF := Aside0.mk (show Kd.C (Kd.int .u8) w z0A 300 (z0l.take 300) ∧ 300 ≤ 300 ∧ 300 ≤ z0c ∧ Bytes (z0l.take 300) from ⟨h2, Nat.le_refl _, h3, (Bytes.of_wf h0.out.2.2.2).take 300⟩)
      clear h2 h3
      go_wp2_with fail
      go_meet
      exact ⟨300, _, rfl, HF, rfl⟩
    · have ht : decide ((z0l.length : Int) > 300) = false := decide_eq_false h300
      have HF := Aside0.mk (show Kd.C (Kd.int .u8) w z0A z0l.length z0l ∧ z0l.length ≤ 300 ∧ z0l.length ≤ z0c ∧ Bytes z0l from ⟨h0.out.2.1, by omega, h0.out.1, Bytes.of_wf h0.out.2.2.2⟩)
      go_wp2_with fail
      go_meet
      exact ⟨_, _, rfl, HF, rfl⟩
  case rest =>
  obtain ⟨n0, l0, rfl, HF0, rfl⟩ := hcut
  go_upto_if 20 with fail
  go_cut [1] (fun v wx => ∃ (n : Nat) (l : List Int), v = .slice z1A n z1c ∧ Aside0 (Kd.C (Kd.int .u8) w z1A n l ∧ n ≤ 300 ∧ n ≤ z1c ∧ Bytes l) ∧ w1 = wx)
  case first =>
    by_cases h300 : (z1l.length : Int) > 300
    · have ht : decide ((z1l.length : Int) > 300) = true := decide_eq_true h300
      obtain ⟨hsl, h2, h3⟩ := bytes300 h1.out.2.1 h1.out.1 h1.out.2.2.2 h300
      have HF := Aside0.mk (show Kd.C (Kd.int .u8) w z1A 300 (z1l.take 300) ∧ 300 ≤ 300 ∧ 300 ≤ z1c ∧ Bytes (z1l.take 300) from ⟨h2, Nat.le_refl _, h3, (Bytes.of_wf h1.out.2.2.2).take 300⟩)
      clear h2 h3
      go_wp2_with fail
      go_meet
      exact ⟨300, _, rfl, HF, rfl⟩
    · have ht : decide ((z1l.length : Int) > 300) = false := decide_eq_false h300
      have HF := Aside0.mk (show Kd.C (Kd.int .u8) w z1A z1l.length z1l ∧ z1l.length ≤ 300 ∧ z1l.length ≤ z1c ∧ Bytes z1l from ⟨h1.out.2.1, by omega, h1.out.1, Bytes.of_wf h1.out.2.2.2⟩)
      go_wp2_with fail
      go_meet
      exact ⟨_, _, rfl, HF, rfl⟩
  case rest =>
  obtain ⟨n1, l1, rfl, HF1, rfl⟩ := hcut
  have HE : Aside0 (St w (w1.alloc (.cells #[] 5)) [row (Kd.int .u8) 5 (.slice (some ⟨w1.heap.size, 0, none⟩) 0 0) ([] : List Int)]) := Aside0.mk (St.row_empty (enc := Value.int .u8) (h1 := fun _ => rfl) HS1.out 5)
  go_wp2_with (first | ((with_reducible refine gate_builtin (b := .append) (xs := #[.tmp 24, .tmp 25]) rfl ?_); at_builtin; refine St.append_rows (d := Kd.int .u8) rfl (.tmp 24) (.tmp 25) 22 5 (.int .u8 0) 1 rfl Try.underlying22 info5' rfl (by decide) (by decide) _ [] l0 _ _ _ rfl rfl HE.out (Kd.C_below HF0.out.1 HE.out.below) (fun _ _ h => h) (show (([] : List Int).length + n0) * 1 ≤ 140737488355328 from by have := HF0.out.2.1; simp only [List.length_nil]; omega) ?_; intro v6 w6 hs6; rw [List.nil_append] at hs6; obtain ⟨A6, c6, he6⟩ := hs6.row_slice; obtain ⟨m6, hm6⟩ : ∃ m, l0.length = m := ⟨_, rfl⟩; rw [hm6] at he6; subst he6; have HS6 := Aside0.mk hs6; have HM6 := Aside0.mk (show m6 ≤ 300 from by rw [← hm6, HF0.out.1.1]; exact HF0.out.2.1); clear hs6 hm6; have HE2 : Aside0 (St w (w6.alloc (.cells #[] 5)) [row (Kd.int .u8) 5 (.slice (some ⟨w6.heap.size, 0, none⟩) 0 0) ([] : List Int), row (Kd.int .u8) 5 (.slice A6 m6 c6) l0]) := Aside0.mk (St.row_empty (enc := Value.int .u8) (h1 := fun _ => rfl) HS6.out 5)) | ((with_reducible refine gate_builtin (b := .append) (xs := #[.tmp 27, .tmp 28]) rfl ?_); at_builtin; refine St.append_rows (d := Kd.int .u8) rfl (.tmp 27) (.tmp 28) 22 5 (.int .u8 0) 1 rfl Try.underlying22 info5' rfl (by decide) (by decide) _ [] l1 _ _ _ rfl rfl HE2.out (Kd.C_below HF1.out.1 HE2.out.below) (fun _ _ h => h) (show (([] : List Int).length + n1) * 1 ≤ 140737488355328 from by have := HF1.out.2.1; simp only [List.length_nil]; omega) ?_; intro v7 w7 hs7; rw [List.nil_append] at hs7; obtain ⟨A7, c7, he7⟩ := hs7.row_slice; obtain ⟨m7, hm7⟩ : ∃ m, l1.length = m := ⟨_, rfl⟩; rw [hm7] at he7; subst he7; have HS7 := Aside0.mk hs7; have HM7 := Aside0.mk (show m7 ≤ 300 from by rw [← hm7, HF1.out.1.1]; exact HF1.out.2.1); clear hs7 hm7))
  refine (super_Newer.st HS7.out HS7.out.swap.row_C.2.2 HS7.out.swap.row_C.2.1 (by have := HM6.out; omega) HF0.out.2.2.2 HS7.out.row_C.2.2 HS7.out.row_C.2.1 (by have := HM7.out; omega) HF1.out.2.2.2).mono ?_
  rintro e w8 ⟨rfl, hs8⟩
  have HRL := Aside0.mk (nOf_len l0 l1 0 1)
  obtain ⟨r, hr⟩ : ∃ r, nOf (readR l0 0) (readR l1 1) = r := ⟨_, rfl⟩
  have HRR := Aside0.mk hr
  rw [hr] at HRL ⊢
  obtain ⟨rs, ri, re⟩ := r
  obtain ⟨dl, hdl⟩ : ∃ d, rs.cells = d := ⟨_, rfl⟩
  have HDL := Aside0.mk (show dl.length = 35 from by rw [← hdl]; exact cells_length _ HRL.out)
  have HDO := Aside0.mk (show ∀ v ∈ dl, v.oneCell' = true from by rw [← hdl]; exact fun v hv => cells_one _ v hv)
  have HEQ := Aside0.mk (show ∀ W, (binOp .eql 28 (.agg dl.toArray) (.agg dl.toArray)).run Try.prog W = .ok (.bool true) W from fun W => by rw [← hdl]; exact eql_sup _ HRL.out W)
  have HDD := Aside0.mk hdl
  rw [show (⟨rs, ri, re⟩ : SupS × Int × Int).1.cells = dl from hdl]
  have HS8 := Aside0.mk (hs8.drop.drop.alloc_ Z35 28)
  have HS9 := Aside0.mk (blk_row_set HS8.out dl.toArray)
  clear hs8 hr hdl
  go_wp2_with (refine Own.wpList_store_row rfl 28 _ _ rfl w8.heap.size rfl dl.toArray rfl 28 _ HS8.out.blk_is (by rw [List.size_toArray, HDL.out]; kernel_rfl) (by rw [List.size_toArray, HDL.out]; rfl) (fun v hv => HDO.out v (by simpa using hv)) ?_)
  refine (ref_Newer.st HS9.out (Kd.C_below HF0.out.1 HS9.out.below) HF0.out.2.2.1 (by have := HF0.out.2.1; omega) HF0.out.2.2.2 (Kd.C_below HF1.out.1 HS9.out.below) HF1.out.2.2.1 (by have := HF1.out.2.1; omega) HF1.out.2.2.2).mono ?_
  rintro e wa ⟨rfl, hsa⟩
  rw [HRR.out, show (⟨rs, ri, re⟩ : SupS × Int × Int).1.cells = dl from HDD.out]
  have HSA := Aside0.mk (hsa.alloc_ Z35 28)
  have HSB := Aside0.mk (blk_row_set HSA.out dl.toArray)
  have HG1 := Aside0.mk (range_all HSB.out.swap.blk_is)
  have HG2 := Aside0.mk (range_all HSB.out.blk_is)
  clear hsa
  go_wp2_with (first | (refine Own.wpList_store_row rfl 28 _ _ rfl wa.heap.size rfl dl.toArray rfl 28 _ HSA.out.blk_is (by rw [List.size_toArray, HDL.out]; kernel_rfl) (by rw [List.size_toArray, HDL.out]; rfl) (fun v hv => HDO.out v (by simpa using hv)) ?_) | (refine wpList_load_midg (by rfl) 28 _ rfl w8.heap.size 0 rfl dl _ HG1.out Try.underlying28 rfl (by rw [HDL.out]; kernel_rfl) ?_) | (refine wpList_load_midg (by rfl) 28 _ rfl wa.heap.size 0 rfl dl _ HG2.out Try.underlying28 rfl (by rw [HDL.out]; kernel_rfl) ?_) | (refine wpList_eqlg (by rfl) 28 28 (.tmp 43) (.tmp 44) rfl dl.toArray dl.toArray rfl rfl true (by kernel_rfl) (HEQ.out _) (some 45) rfl ?_))
  go_ret
  exact ⟨by simp, HSB.out.below⟩
end Go.Proofs.Ytjpebckmjlmkmaa.P
