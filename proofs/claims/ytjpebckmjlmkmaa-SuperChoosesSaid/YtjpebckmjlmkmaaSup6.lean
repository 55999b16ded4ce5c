/- A superblock is written: the program's function, walked. -/
import Derived.Test.YtjpebckmjlmkmaaSup5
namespace Go.Proofs.Ytjpebckmjlmkmaa.P
open Go.RowKit Go.Proofs.YtjpebckmjlmkmaaW.PrintWords Go.Proofs.YtjpebckmjlmkmaaW.PrintLast Go.Proofs.YtjpebckmjlmkmaaW.PrintMore Go.Proofs.Ytjpebckmjlmkmaa.NumLem Go.Proofs.Ytjpebckmjlmkmaa.SealLem Go.Proofs.Ytjpebckmjlmkmaa.Sep
set_option linter.unusedVariables false
theorem info5' : (Try.prog.info? 5).map (fun i => (i.zero, i.size, i.bytes)) = some (some (.int .u8 0), 1, 1) := by kernel_rfl
def Z10 : Array Value := #[.int .u8 0, .int .u8 0, .int .u8 0, .int .u8 0, .int .u8 0, .int .u8 0, .int .u8 0, .int .u8 0, .int .u8 0, .int .u8 0]
set_option maxHeartbeats 4000000 in
theorem super_Write.st (s : SupS) (hl : s.vols.length = 8) (hn : ∀ v ∈ s.vols, v.name.size ≤ 9223372036854775807) (slot : Int) {w0 w : World} {ps : List HP} (h : St w0 w ps) :
    Calls Try.prog 19 #[.agg s.cells.toArray, .int .i64 slot] w fun e w' => RowsPost w0 ps (writeR s slot) e w' := by
  obtain ⟨C, hC⟩ : ∃ C, s.cells.toArray = C := ⟨_, rfl⟩
  have hsz : C.size = 35 := by rw [← hC, List.size_toArray, cells_length s hl]
  have HM := Aside0.mk (fun W => hC ▸ super_May.st s hl hn W)
  have HF := Aside0.mk (fun hm => may_fine hl hm)
  obtain ⟨g, sec, lg, vs⟩ := s
  have h0 : C[0]'(by omega) = .int .i64 g := by subst hC; rfl
  have h1 : C[1]'(by omega) = .int .i64 sec := by subst hC; rfl
  have h2 : C[2]'(by omega) = .int .i64 lg := by subst hC; rfl
  have HS := Aside0.mk (h.alloc_ C 28)
  have HRG := Aside0.mk (show (w.alloc (.cells C 28)).rangeAt w.heap.size 0 C.toList from by
    have := World.rangeAt_of_block HS.out.blk_is 0 C.size
    rwa [Nat.zero_add, Array.extract_size] at this)
  rw [hC]
  have HC := Aside0.mk hC
  obtain ⟨b, hb⟩ : ∃ b, mayR ⟨g, sec, lg, vs⟩ = b := ⟨_, rfl⟩
  rw [hb] at HM HF
  have HMB := Aside0.mk hb
  simp only at hl
  have HL := Aside0.mk hl
  have H35 := Aside0.mk hsz
  clear hn hl hC h hb
  cases b with
  | false =>
    rw [show writeR ⟨g, sec, lg, vs⟩ slot = ([], 1) from by unfold writeR; rw [HMB.out, if_neg (fun q => by cases q.1)]]
    go_enter Try.func19, Try.ntmps19
    go_wp2_with (refine wpList_load_mid rfl 28 _ rfl w.heap.size 0 rfl C.toList _ HRG.out Try.underlying28 rfl (by rw [Array.length_toList, H35.out]; rfl) ?_)
    refine (HM.out _).mono ?_
    rintro e w1 ⟨rfl, hb⟩
    have HS1 := Aside0.mk (HS.out.below_ hb)
    go_wp2_with fail
    go_ret2
    exact ⟨none, 0, 0, rfl, HS1.out.drop.row_nil⟩
  | true =>
  obtain ⟨bs, hbs⟩ : ∃ b, decide (0 ≤ slot ∧ slot ≤ 1) = b := ⟨_, rfl⟩
  cases bs with
  | false =>
    rw [show writeR ⟨g, sec, lg, vs⟩ slot = ([], 1) from by unfold writeR slotOk; rw [if_neg (fun q => (of_decide_eq_false hbs) q.2)]]
    go_enter Try.func19, Try.ntmps19
    go_wp2_with (refine wpList_load_mid rfl 28 _ rfl w.heap.size 0 rfl C.toList _ HRG.out Try.underlying28 rfl (by rw [Array.length_toList, H35.out]; rfl) ?_)
    refine (HM.out _).mono ?_
    rintro e w1 ⟨rfl, hb⟩
    have HS1 := Aside0.mk (HS.out.below_ hb)
    go_wp2_with fail
    refine (within_same _ _ _ _).mono ?_
    rintro e w2 ⟨rfl, rfl⟩
    rw [hbs]
    go_wp2_with fail
    go_ret2
    exact ⟨none, 0, 0, rfl, HS1.out.drop.row_nil⟩
  | true =>
  have HSL := Aside0.mk (of_decide_eq_true hbs)
  obtain ⟨fg, fs, fl, fv⟩ := HF.out rfl
  have HFG := Aside0.mk fg
  have HFS := Aside0.mk fs
  have HFL := Aside0.mk fl
  have HFV := Aside0.mk fv
  clear fg fs fl fv HF
  go_enter Try.func19, Try.ntmps19
  go_wp2_with (refine wpList_load_mid rfl 28 _ rfl w.heap.size 0 rfl C.toList _ HRG.out Try.underlying28 rfl (by rw [Array.length_toList, H35.out]; rfl) ?_)
  refine (HM.out _).mono ?_
  rintro e w1 ⟨rfl, hb⟩
  have HS1 := Aside0.mk (HS.out.below_ hb)
  go_wp2_with fail
  refine (within_same _ _ _ _).mono ?_
  rintro e w2 ⟨rfl, rfl⟩
  rw [hbs]
  clear hb HS HRG
  have k1 := (blk_cell HS1.out.blk_is 1).trans (show C[1]? = some (.int .i64 sec) from by rw [Array.getElem?_eq_getElem (by rw [H35.out]; decide), h1])
  have k2 := (blk_cell HS1.out.blk_is 2).trans (show C[2]? = some (.int .i64 lg) from by rw [Array.getElem?_eq_getElem (by rw [H35.out]; decide), h2])
  go_wp2_with fail
  go_region_held3 (fun w' => w'.cell? ⟨w.heap.size, 1, none⟩ = some (.int .i64 sec) ∧ w'.cell? ⟨w.heap.size, 2, none⟩ = some (.int .i64 lg)) (first | exact ⟨k1, k2⟩ | go_keep)
    (first
      | (go_at_call_of 29 (Value.slice none 0 0); refine (num_Put.st HS1.out.drew (Kd.C_nil _ _) (Nat.le_refl _) sec 2 (by decide) (by decide) (by have := HFS.out; omega) (by have := HFS.out; show sec < 65536; omega) (by decide)).mono ?_; rintro e w3 ⟨A3, m3, c3, l3, rfl, hl3, hs3⟩; have HS3 := Aside0.mk hs3; have HL3 := Aside0.mk hl3; have HC3 := Aside0.mk hs3.row_C; clear hs3 hl3 k1 k2; have k1 := (blk_cell HS3.out.swap.blk_is 1).trans (show C[1]? = some (.int .i64 sec) from by rw [Array.getElem?_eq_getElem (by rw [H35.out]; decide), h1]); have k2 := (blk_cell HS3.out.swap.blk_is 2).trans (show C[2]? = some (.int .i64 lg) from by rw [Array.getElem?_eq_getElem (by rw [H35.out]; decide), h2]))
      | (go_at_call_of 29 (Value.slice A3 m3 c3); refine (num_Put.st HS3.out HC3.out.2.2 HC3.out.2.1 lg 2 (by decide) (by decide) (by have := HFL.out; omega) (by have := HFL.out; show lg < 65536; omega) (by rw [HC3.out.1, HL3.out, List.length_append, digits_length]; decide)).mono ?_; rintro e w4 ⟨A4, m4, c4, l4, rfl, hl4, hs4⟩; have HS4 := Aside0.mk hs4; have HL4 := Aside0.mk hl4; have HC4 := Aside0.mk hs4.row_C; clear hs4 hl4 k1 k2; have k1 := (blk_cell (HS4.out.front 2).blk_is 1).trans (show C[1]? = some (.int .i64 sec) from by rw [Array.getElem?_eq_getElem (by rw [H35.out]; decide), h1]); have k2 := (blk_cell (HS4.out.front 2).blk_is 2).trans (show C[2]? = some (.int .i64 lg) from by rw [Array.getElem?_eq_getElem (by rw [H35.out]; decide), h2])))
  clear k1 k2
  have HVR := Aside0.mk (show w4.rangeAt w.heap.size 3 (volsC vs) from by
    have h3 := World.rangeAt_of_block (HS4.out.front 2).blk_is 3 32
    have e : (C.extract 3 (3 + 32)).toList = volsC vs := by
      rw [← HC.out, List.extract_toArray, List.extract_eq_take_drop]
      show (volsC vs).take 32 = _
      exact List.take_of_length_le (by rw [volsC_length, HL.out]; decide)
    rwa [e] at h3)
  have HVL := Aside0.mk (show (volsC vs).length = 32 from by rw [volsC_length, HL.out])
  go_wp2_with (refine wpList_load_mid rfl 26 _ rfl w.heap.size 3 rfl (volsC vs) _ HVR.out Try.underlying26 rfl (by rw [HVL.out]; rfl) ?_)
  clear HVR HVL
  have HS5 := Aside0.mk (show St w0 w4 (row (Kd.int .u8) 5 (.slice A4 m4 c4) l4 :: blk w.heap.size C 28 :: ps) from HS4.out.swap.drop)
  have HL5 := Aside0.mk (show l4 = digits sec 2 ++ (digits lg 2 ++ (vs.take 0).flatMap volD) from by rw [HL4.out, HL3.out]; simp)
  clear HS1 HS3 HS4 HL3 HL4 HC3 HC4 h0 h1 h2 hbs
  go_loopw [6, 27] (fun bv i wr => ∃ (j m c : Nat) (A : Option Addr) (l : List Int), i = .int .i64 j ∧ bv = .slice A m c ∧ j ≤ 8 ∧ Aside0 (l = digits sec 2 ++ (digits lg 2 ++ (vs.take j).flatMap volD)) ∧ Aside0 (St w0 wr (row (Kd.int .u8) 5 (.slice A m c) l :: blk w.heap.size C 28 :: ps))) (fun _ i _ => 8 - (intOf i).toNat)
  case atStart => exact ⟨0, m4, c4, A4, l4, rfl, rfl, by omega, HL5, HS5⟩
  case round =>
    clear HS5 HL5
    obtain ⟨j, m, c, A, l, rfl, rfl, hj, HLL, HS⟩ := hrel
    by_cases hlt : j < 8
    · have l1 : decide ((j : Int) < 8) = true := decide_eq_true (by omega)
      have l2 : (j : Int) < 8 := by omega
      have hix := fun W => vols_index vs HL.out j hlt W
      obtain ⟨v, hv⟩ : ∃ v, vs.getD j .zero = v := ⟨_, rfl⟩
      rw [hv] at hix
      have HLT := Aside0.mk hlt
      have hvm : vs[j]'(by rw [HL.out]; exact hlt) = v := by rw [← hv, List.getD_eq_getElem?_getD, List.getElem?_eq_getElem (by rw [HL.out]; exact hlt)]; rfl
      have HSM := Aside0.mk (show Small v from HFV.out v (hvm ▸ List.getElem_mem _))
      have HT := Aside0.mk (show (vs.take (j + 1)).flatMap volD = (vs.take j).flatMap volD ++ volD v from by rw [List.take_succ_eq_append_getElem (by rw [HL.out]; exact hlt), hvm, List.flatMap_append]; simp)
      have HLN := Aside0.mk (show l.length ≤ 200 from by
        rw [HLL.out, List.length_append, List.length_append, digits_length, digits_length, volsD_length _ (fun u hu => HFV.out u (List.mem_of_mem_take hu)), List.length_take]
        omega)
      obtain ⟨nm, ro, rt, nx⟩ := v
      change ∀ W, _ = Result.ok (Value.agg #[.string nm, .bool ro, .int .i64 rt, .int .i64 nx]) W at hix
      have HS2 := Aside0.mk (show St w0 _ (blk (wr.heap.size + 1) (byC (List.replicate 10 0)) 57 :: blk wr.heap.size #[.string nm, .bool ro, .int .i64 rt, .int .i64 nx] 25 :: row (Kd.int .u8) 5 (.slice A m c) l :: blk w.heap.size C 28 :: ps) from by
        have := (HS.out.alloc_ #[.string nm, .bool ro, .int .i64 rt, .int .i64 nx] 25).alloc_ Z10 57
        rw [show byC (List.replicate 10 0) = Z10 from rfl]
        unfold Z10 at this ⊢
        simpa using this)
      have HLB := Aside0.mk (show (bytesOf nm ++ List.replicate (10 - nm.size) 0).length = 10 from by have := HSM.out.1; have := SuperLem.bytesOf_length nm; rw [List.length_append, List.length_replicate]; simp only at *; omega)
      have k0 := blk_cell HS2.out.swap.blk_is 0
      clear hv hlt hvm
      go_wp2_with fail
      go_region_held3 (fun w' => w'.cell? ⟨wr.heap.size, 0, none⟩ = some (.string nm)) (first | exact k0 | go_keep)
        ((refine St.copy_string rfl (.tmp 30) (.tmp 32) 22 9 rfl 5 Try.underlying22 (by kernel_rfl) (wr.heap.size + 1) 10 10 57 rfl nm rfl HSM.out.1 HS2.out.drew ?_; intro w5 hs5; have HS5 := Aside0.mk hs5; clear k0; have k0 := blk_cell hs5.swap.blk_is 0; clear hs5))
      go_wp2_with fail
      go_region_held3 (fun w' => w'.cell? ⟨wr.heap.size, 0, none⟩ = some (.string nm)) (first | exact k0 | go_keep)
        (first
          | (go_at_call_of 29 (Value.slice A m c); refine (num_Put.st HS5.out.drew ((HS5.out.drew.front 2).row_C.2.2) ((HS5.out.front 2).row_C.2.1) (nm.size : Int) 1 (by decide) (by decide) (by omega) (by have := HSM.out.1; show (nm.size : Int) < 256; simp only at this; omega) (by rw [(HS5.out.front 2).row_C.1]; have := HLN.out; omega)).mono ?_; rintro e w6 ⟨A6, m6, c6, l6, rfl, hl6, hs6⟩; have HS6 := Aside0.mk hs6; have HL6 := Aside0.mk hl6; have HC6 := Aside0.mk (show m6 ≤ 201 from by rw [hs6.row_C.1, hl6, List.length_append, digits_length]; have := HLN.out; omega); clear k0 hs6 hl6; have k0 := blk_cell (HS6.out.front 2).blk_is 0)
          | (refine St.append_rows_step (d := Kd.int .u8) (by rfl) (.tmp 38) (.tmp 39) 22 5 (.int .u8 0) 1 rfl Try.underlying22 info5' rfl (by decide) (by decide) _ l6 (bytesOf nm ++ List.replicate (10 - nm.size) 0) _ 10 10 rfl rfl HS6.out (by have h3 := P.St.blk_row HS6.out.swap (by rw [HLB.out]; decide); rwa [HLB.out] at h3) (fun _ _ h => h) (show (l6.length + 10) * 1 ≤ 140737488355328 from by have := HC6.out; rw [← HS6.out.row_C.1]; omega) ?_; intro v7 w7 hs7; obtain ⟨A7, c7, he7⟩ := hs7.row_slice; obtain ⟨l7, hl7⟩ : ∃ l7, l6 ++ (bytesOf nm ++ List.replicate (10 - nm.size) 0) = l7 := ⟨_, rfl⟩; rw [hl7] at hs7 he7; obtain ⟨m7, hm7⟩ : ∃ m, l7.length = m := ⟨_, rfl⟩; rw [hm7] at he7; subst he7; have HS7 := Aside0.mk hs7; have HL7 := Aside0.mk hl7; have HM7 := Aside0.mk (show m7 ≤ 211 from by rw [← hm7, ← hl7, List.length_append, HLB.out, ← HS6.out.row_C.1]; have := HC6.out; omega); clear k0 hs7 hl7 hm7; have k0 := blk_cell (HS7.out.front 2).blk_is 0))
      have k1 := blk_cell (HS7.out.front 2).blk_is 1
      have k2 := blk_cell (HS7.out.front 2).blk_is 2
      have k3 := blk_cell (HS7.out.front 2).blk_is 3
      clear k0
      cases ro with
      | true =>
        go_wp2_with fail
        go_region_held3 (fun w' => w'.cell? ⟨wr.heap.size, 2, none⟩ = some (.int .i64 rt) ∧ w'.cell? ⟨wr.heap.size, 3, none⟩ = some (.int .i64 nx)) (first | exact ⟨k2, k3⟩ | go_keep)
          (first
            | (go_at_call_of 29 (Value.slice A7 m7 c7); refine (num_Put.st HS7.out.drew HS7.out.drew.row_C.2.2 HS7.out.row_C.2.1 1 1 (by decide) (by decide) (by decide) (by decide) (by have := HM7.out; omega)).mono ?_; rintro e w8 ⟨A8, m8, c8, l8, rfl, hl8, hs8⟩; have HS8 := Aside0.mk hs8; have HL8 := Aside0.mk hl8; have HM8 := Aside0.mk (show m8 ≤ 212 from by rw [hs8.row_C.1, hl8, List.length_append, digits_length, ← HS7.out.row_C.1]; have := HM7.out; omega); clear k2 k3 hs8 hl8; have k2 := blk_cell (HS8.out.front 3).blk_is 2; have k3 := blk_cell (HS8.out.front 3).blk_is 3)
            | (go_at_call_of 29 (Value.slice A8 m8 c8); refine (num_Put.st HS8.out HS8.out.row_C.2.2 HS8.out.row_C.2.1 rt 2 (by decide) (by decide) HSM.out.2.1.1 (by have := HSM.out.2.1.2; show rt < 65536; simp only at this; omega) (by have := HM8.out; omega)).mono ?_; rintro e w9 ⟨A9, m9, c9, l9, rfl, hl9, hs9⟩; have HS9 := Aside0.mk hs9; have HL9 := Aside0.mk hl9; have HM9 := Aside0.mk (show m9 ≤ 214 from by rw [hs9.row_C.1, hl9, List.length_append, digits_length, ← HS8.out.row_C.1]; have := HM8.out; omega); clear k2 k3 hs9 hl9; have k2 := blk_cell (HS9.out.front 4).blk_is 2; have k3 := blk_cell (HS9.out.front 4).blk_is 3)
            | (go_at_call_of 29 (Value.slice A9 m9 c9); refine (num_Put.st HS9.out HS9.out.row_C.2.2 HS9.out.row_C.2.1 nx 4 (by decide) (by decide) HSM.out.2.2.1 (by have := HSM.out.2.2.2; show nx < 4294967296; simp only at this; omega) (by have := HM9.out; omega)).mono ?_; rintro e wz ⟨Az, mz, cz, lz, rfl, hlz, hsz⟩; have HSZ := Aside0.mk hsz; have HLZ := Aside0.mk hlz; clear k2 k3 hsz hlz; have k2 := blk_cell (HSZ.out.front 5).blk_is 2; have k3 := blk_cell (HSZ.out.front 5).blk_is 3))
        clear k1 k2 k3
        go_wp2_with fail
        refine ⟨⟨j + 1, mz, cz, Az, lz, rfl, rfl, HLT.out, ?_, ?_⟩, meas_i j 8 HLT.out _ rfl⟩
        · exact Aside0.mk (by rw [HLZ.out, HL9.out, HL8.out, ← HL7.out, HL6.out, HLL.out, HT.out]; unfold volD flagI; simp only [List.append_assoc]; rfl)
        · exact Aside0.mk (HSZ.out.swap.drop.swap.drop.swap.drop.swap.drop.swap.drop.swap.drop)
      | false =>
        go_wp2_with fail
        go_region_held3 (fun w' => w'.cell? ⟨wr.heap.size, 2, none⟩ = some (.int .i64 rt) ∧ w'.cell? ⟨wr.heap.size, 3, none⟩ = some (.int .i64 nx)) (first | exact ⟨k2, k3⟩ | go_keep)
          (first
            | (go_at_call_of 29 (Value.slice A7 m7 c7); refine (num_Put.st HS7.out.drew HS7.out.drew.row_C.2.2 HS7.out.row_C.2.1 0 1 (by decide) (by decide) (by decide) (by decide) (by have := HM7.out; omega)).mono ?_; rintro e w8 ⟨A8, m8, c8, l8, rfl, hl8, hs8⟩; have HS8 := Aside0.mk hs8; have HL8 := Aside0.mk hl8; have HM8 := Aside0.mk (show m8 ≤ 212 from by rw [hs8.row_C.1, hl8, List.length_append, digits_length, ← HS7.out.row_C.1]; have := HM7.out; omega); clear k2 k3 hs8 hl8; have k2 := blk_cell (HS8.out.front 3).blk_is 2; have k3 := blk_cell (HS8.out.front 3).blk_is 3)
            | (go_at_call_of 29 (Value.slice A8 m8 c8); refine (num_Put.st HS8.out HS8.out.row_C.2.2 HS8.out.row_C.2.1 rt 2 (by decide) (by decide) HSM.out.2.1.1 (by have := HSM.out.2.1.2; show rt < 65536; simp only at this; omega) (by have := HM8.out; omega)).mono ?_; rintro e w9 ⟨A9, m9, c9, l9, rfl, hl9, hs9⟩; have HS9 := Aside0.mk hs9; have HL9 := Aside0.mk hl9; have HM9 := Aside0.mk (show m9 ≤ 214 from by rw [hs9.row_C.1, hl9, List.length_append, digits_length, ← HS8.out.row_C.1]; have := HM8.out; omega); clear k2 k3 hs9 hl9; have k2 := blk_cell (HS9.out.front 4).blk_is 2; have k3 := blk_cell (HS9.out.front 4).blk_is 3)
            | (go_at_call_of 29 (Value.slice A9 m9 c9); refine (num_Put.st HS9.out HS9.out.row_C.2.2 HS9.out.row_C.2.1 nx 4 (by decide) (by decide) HSM.out.2.2.1 (by have := HSM.out.2.2.2; show nx < 4294967296; simp only at this; omega) (by have := HM9.out; omega)).mono ?_; rintro e wz ⟨Az, mz, cz, lz, rfl, hlz, hsz⟩; have HSZ := Aside0.mk hsz; have HLZ := Aside0.mk hlz; clear k2 k3 hsz hlz; have k2 := blk_cell (HSZ.out.front 5).blk_is 2; have k3 := blk_cell (HSZ.out.front 5).blk_is 3))
        clear k1 k2 k3
        go_wp2_with fail
        refine ⟨⟨j + 1, mz, cz, Az, lz, rfl, rfl, HLT.out, ?_, ?_⟩, meas_i j 8 HLT.out _ rfl⟩
        · exact Aside0.mk (by rw [HLZ.out, HL9.out, HL8.out, ← HL7.out, HL6.out, HLL.out, HT.out]; unfold volD flagI; simp only [List.append_assoc]; rfl)
        · exact Aside0.mk (HSZ.out.swap.drop.swap.drop.swap.drop.swap.drop.swap.drop.swap.drop)
    · obtain rfl : j = 8 := by omega
      have l1 : decide (((8 : Nat) : Int) < 8) = false := by decide
      have k0 := (blk_cell HS.out.swap.blk_is 0).trans (show C[0]? = some (.int .i64 g) from by rw [← HC.out]; rfl)
      have HW := Aside0.mk (show sealR 1 slot 0 0 g l = writeR ⟨g, sec, lg, vs⟩ slot from by
        have e1 : l = bodyD ⟨g, sec, lg, vs⟩ := by rw [HLL.out, List.take_of_length_le (by rw [HL.out]; decide)]; rfl
        have e2 := sealR_sup (s := ⟨g, sec, lg, vs⟩) HL.out (may_fine HL.out HMB.out) HSL.out
        unfold writeR
        rw [e1, if_pos ⟨HMB.out, HSL.out⟩]
        exact e2)
      go_wp2_with fail
      refine (seal_Seal.st HS.out HS.out.row_C.2.2 HS.out.row_C.2.1 1 slot 0 0 g).mono ?_
      rintro e w9 ⟨A9, m9, c9, rfl, hs9⟩
      rw [HW.out] at hs9 ⊢
      have HS9 := Aside0.mk hs9
      clear hs9
      go_wp2_with fail
      go_ret2
      exact ⟨A9, m9, c9, rfl, HS9.out.swap.drop.swap.drop⟩
end Go.Proofs.Ytjpebckmjlmkmaa.P
