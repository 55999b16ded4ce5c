/- A superblock is written: the document's function, walked. -/
import Derived.Test.YtjpebckmjlmkmaaSup6
import Derived.Test.YtjpebckmjlmkmaaPx3
import Derived.Test.YtjpebckmjlmkmaaPx4
import Derived.Test.YtjpebckmjlmkmaaSealLemR
namespace Go.Proofs.Ytjpebckmjlmkmaa.P
open Go.RowKit Go.Proofs.YtjpebckmjlmkmaaW.PrintWords Go.Proofs.YtjpebckmjlmkmaaW.PrintLast Go.Proofs.YtjpebckmjlmkmaaW.PrintMore Go.Proofs.Ytjpebckmjlmkmaa.NumLem Go.Proofs.Ytjpebckmjlmkmaa.SealLem Go.Proofs.Ytjpebckmjlmkmaa.Sep
set_option linter.unusedVariables false
theorem ref_Put.st {w0 w : World} {ps : List HP} (h : St w0 w ps) {A : Option Addr} {m c : Nat} {l : List Int} (hr : Kd.C (Kd.int .u8) w A m l) (hc : m ≤ c) (x : Int) (n : Nat) (h1 : 1 ≤ n) (h7 : n ≤ 7) (h0 : 0 ≤ x) (hx : x < 256 ^ n) (hm : m ≤ 1000) :
    Calls Try.prog 31 #[.slice A m c, .int .i64 x, .int .i64 n] w fun e w' => RowPost w0 ps (l ++ digits x n) e w' := by
  obtain rfl := hr.1
  refine (cambiumref01_Put.calls 20 A c l x n (l ++ digits x n) w hr hc (by rw [refPut_is _ _ _ (by omega), putR_dig l x n h1 h7 h0 hx])).mono ?_
  rintro e w' ⟨v, rfl, hv, hb⟩
  obtain ⟨A1, m1, c1, rfl, hs⟩ := row_post h hv hb
  exact ⟨A1, m1, c1, _, rfl, rfl, hs⟩
theorem ref_Seal.st {w0 w : World} {ps : List HP} (h : St w0 w ps) {A : Option Addr} {m c : Nat} {l : List Int} (hr : Kd.C (Kd.int .u8) w A m l) (hc : m ≤ c) (a0 a1 a2 a3 a4 : Int) :
    Calls Try.prog 32 #[.agg #[.int .i64 a0, .int .i64 a1, .int .i64 a2, .int .i64 a3, .int .i64 a4], .slice A m c] w fun e w' => RowsPost w0 ps (sealR a0 a1 a2 a3 a4 l) e w' := by
  obtain rfl := hr.1
  refine (cambiumref04_Seal.calls 3000 a0 a1 a2 a3 a4 A c l _ _ w hr hc (refSeal_is 3000 (Nat.le_refl _) a0 a1 a2 a3 a4 l)).mono ?_
  rintro e w' ⟨v, rfl, hv, hb⟩
  obtain ⟨A1, m1, c1, rfl, hs⟩ := row_post h hv hb
  exact ⟨A1, m1, c1, rfl, hs⟩
theorem pad_step (l x : List Int) (n k : Nat) (h : n ≤ k) : (l ++ (x ++ List.replicate (k - n) 0)) ++ [0] = l ++ (x ++ List.replicate (k + 1 - n) 0) := by
  rw [show k + 1 - n = (k - n) + 1 from by omega, List.replicate_succ', List.append_assoc, List.append_assoc]
set_option maxHeartbeats 4000000 in
theorem ref_Write.st (s : SupS) (hl : s.vols.length = 8) (hn : ∀ v ∈ s.vols, v.name.size ≤ 9223372036854775807) (slot : Int) {w0 w : World} {ps : List HP} (h : St w0 w ps) :
    Calls Try.prog 20 #[.agg s.cells.toArray, .int .i64 slot] w fun e w' => RowsPost w0 ps (writeR s slot) e w' := by
  obtain ⟨C, hC⟩ : ∃ C, s.cells.toArray = C := ⟨_, rfl⟩
  have hsz : C.size = 35 := by rw [← hC, List.size_toArray, cells_length s hl]
  have HM := Aside0.mk (fun W => hC ▸ ref_May.st s hl hn W)
  have HF := Aside0.mk (fun hm => may_fine hl hm)
  obtain ⟨g, sec, lg, vs⟩ := s
  have h0 : C[0]'(by omega) = .int .i64 g := by subst hC; rfl
  have h1 : C[1]'(by omega) = .int .i64 sec := by subst hC; rfl
  have h2 : C[2]'(by omega) = .int .i64 lg := by subst hC; rfl
  have HS := Aside0.mk (h.alloc_ C 28)
  have HRG := Aside0.mk (show (w.alloc (.cells C 28)).rangeAt w.heap.size 0 C.toList from by
    have := World.rangeAt_of_block HS.out.blk_is 0 C.size
    rwa [Nat.zero_add, Array.extract_size] at this)
  rw [hC]
  have HC := Aside0.mk hC
  obtain ⟨b, hb⟩ : ∃ b, mayR ⟨g, sec, lg, vs⟩ = b := ⟨_, rfl⟩
  rw [hb] at HM HF
  have HMB := Aside0.mk hb
  simp only at hl
  have HL := Aside0.mk hl
  have H35 := Aside0.mk hsz
  clear hn hl hC h hb
  cases b with
  | false =>
    rw [show writeR ⟨g, sec, lg, vs⟩ slot = ([], 1) from by unfold writeR; rw [HMB.out, if_neg (fun q => by cases q.1)]]
    go_enter Try.func20, Try.ntmps20
    go_wp2_with (refine wpList_load_mid rfl 28 _ rfl w.heap.size 0 rfl C.toList _ HRG.out Try.underlying28 rfl (by rw [Array.length_toList, H35.out]; rfl) ?_)
    refine (HM.out _).mono ?_
    rintro e w1 ⟨rfl, hb⟩
    have HS1 := Aside0.mk (HS.out.below_ hb)
    go_wp2_with fail
    go_ret2
    exact ⟨none, 0, 0, rfl, HS1.out.drop.row_nil⟩
  | true =>
  by_cases q1 : slot < 0
  · have q1d : decide (slot < 0) = true := decide_eq_true q1
    rw [show writeR ⟨g, sec, lg, vs⟩ slot = ([], 1) from by unfold writeR slotOk; rw [if_neg (fun q => by omega)]]
    go_enter Try.func20, Try.ntmps20
    go_wp2_with (refine wpList_load_mid rfl 28 _ rfl w.heap.size 0 rfl C.toList _ HRG.out Try.underlying28 rfl (by rw [Array.length_toList, H35.out]; rfl) ?_)
    refine (HM.out _).mono ?_
    rintro e w1 ⟨rfl, hb⟩
    have HS1 := Aside0.mk (HS.out.below_ hb)
    go_wp2_with fail
    go_ret2
    exact ⟨none, 0, 0, rfl, HS1.out.drop.row_nil⟩
  have q1d : decide (slot < 0) = false := decide_eq_false q1
  by_cases q2 : slot > 1
  · have q2d : decide (slot > 1) = true := decide_eq_true q2
    rw [show writeR ⟨g, sec, lg, vs⟩ slot = ([], 1) from by unfold writeR slotOk; rw [if_neg (fun q => by omega)]]
    go_enter Try.func20, Try.ntmps20
    go_wp2_with (refine wpList_load_mid rfl 28 _ rfl w.heap.size 0 rfl C.toList _ HRG.out Try.underlying28 rfl (by rw [Array.length_toList, H35.out]; rfl) ?_)
    refine (HM.out _).mono ?_
    rintro e w1 ⟨rfl, hb⟩
    have HS1 := Aside0.mk (HS.out.below_ hb)
    go_wp2_with fail
    go_ret2
    exact ⟨none, 0, 0, rfl, HS1.out.drop.row_nil⟩
  have q2d : decide (slot > 1) = false := decide_eq_false q2
  have HSL := Aside0.mk (show slotOk slot from by unfold slotOk; omega)
  obtain ⟨fg, fs, fl, fv⟩ := HF.out rfl
  have HFG := Aside0.mk fg
  have HFS := Aside0.mk fs
  have HFL := Aside0.mk fl
  have HFV := Aside0.mk fv
  clear fg fs fl fv HF
  go_enter Try.func20, Try.ntmps20
  go_wp2_with (refine wpList_load_mid rfl 28 _ rfl w.heap.size 0 rfl C.toList _ HRG.out Try.underlying28 rfl (by rw [Array.length_toList, H35.out]; rfl) ?_)
  refine (HM.out _).mono ?_
  rintro e w1 ⟨rfl, hb⟩
  have HS1 := Aside0.mk (HS.out.below_ hb)
  clear hb HS HRG
  have k1 := (blk_cell HS1.out.blk_is 1).trans (show C[1]? = some (.int .i64 sec) from by rw [Array.getElem?_eq_getElem (by rw [H35.out]; decide), h1])
  have k2 := (blk_cell HS1.out.blk_is 2).trans (show C[2]? = some (.int .i64 lg) from by rw [Array.getElem?_eq_getElem (by rw [H35.out]; decide), h2])
  go_wp2_with fail
  go_region_held3 (fun w' => w'.cell? ⟨w.heap.size, 1, none⟩ = some (.int .i64 sec) ∧ w'.cell? ⟨w.heap.size, 2, none⟩ = some (.int .i64 lg)) (first | exact ⟨k1, k2⟩ | go_keep)
    (first
      | (go_at_call_of 31 (Value.slice none 0 0); refine (ref_Put.st HS1.out.drew (Kd.C_nil _ _) (Nat.le_refl _) sec 2 (by decide) (by decide) (by have := HFS.out; omega) (by have := HFS.out; show sec < 65536; omega) (by decide)).mono ?_; rintro e w3 ⟨A3, m3, c3, l3, rfl, hl3, hs3⟩; have HS3 := Aside0.mk hs3; have HL3 := Aside0.mk hl3; have HC3 := Aside0.mk hs3.row_C; clear hs3 hl3 k1 k2; have k1 := (blk_cell HS3.out.swap.blk_is 1).trans (show C[1]? = some (.int .i64 sec) from by rw [Array.getElem?_eq_getElem (by rw [H35.out]; decide), h1]); have k2 := (blk_cell HS3.out.swap.blk_is 2).trans (show C[2]? = some (.int .i64 lg) from by rw [Array.getElem?_eq_getElem (by rw [H35.out]; decide), h2]))
      | (go_at_call_of 31 (Value.slice A3 m3 c3); refine (ref_Put.st HS3.out HC3.out.2.2 HC3.out.2.1 lg 2 (by decide) (by decide) (by have := HFL.out; omega) (by have := HFL.out; show lg < 65536; omega) (by rw [HC3.out.1, HL3.out, List.length_append, digits_length]; decide)).mono ?_; rintro e w4 ⟨A4, m4, c4, l4, rfl, hl4, hs4⟩; have HS4 := Aside0.mk hs4; have HL4 := Aside0.mk hl4; have HC4 := Aside0.mk hs4.row_C; clear hs4 hl4 k1 k2; have k1 := (blk_cell (HS4.out.front 2).blk_is 1).trans (show C[1]? = some (.int .i64 sec) from by rw [Array.getElem?_eq_getElem (by rw [H35.out]; decide), h1]); have k2 := (blk_cell (HS4.out.front 2).blk_is 2).trans (show C[2]? = some (.int .i64 lg) from by rw [Array.getElem?_eq_getElem (by rw [H35.out]; decide), h2])))
  clear k1 k2
  go_wp2_with fail
  have HS5 := Aside0.mk (show St w0 w4 (row (Kd.int .u8) 5 (.slice A4 m4 c4) l4 :: blk w.heap.size C 28 :: ps) from HS4.out.swap.drop)
  have HL5 := Aside0.mk (show l4 = digits sec 2 ++ (digits lg 2 ++ (vs.take 0).flatMap volD) from by rw [HL4.out, HL3.out]; simp)
  clear HS1 HS3 HS4 HL3 HL4 HC3 HC4 h0 h1 h2 q1 q1d q2 q2d
  go_loopw [7, 8] (fun bv i wr => ∃ (j m c : Nat) (A : Option Addr) (l : List Int), i = .int .i64 j ∧ bv = .slice A m c ∧ j ≤ 8 ∧ Aside0 (l = digits sec 2 ++ (digits lg 2 ++ (vs.take j).flatMap volD)) ∧ Aside0 (St w0 wr (row (Kd.int .u8) 5 (.slice A m c) l :: blk w.heap.size C 28 :: ps))) (fun _ i _ => 8 - (intOf i).toNat)
  case atStart => exact ⟨0, m4, c4, A4, l4, rfl, rfl, by omega, HL5, HS5⟩
  case round =>
    clear HS5 HL5
    obtain ⟨j, m, c, A, l, rfl, rfl, hj, HLL, HS⟩ := hrel
    by_cases hlt : j < 8
    · have l1 : decide ((j : Int) < 8) = true := decide_eq_true (by omega)
      have l2 : (j : Int) < 8 := by omega
      obtain ⟨v, hv⟩ : ∃ v, vs.getD j .zero = v := ⟨_, rfl⟩
      have HLT := Aside0.mk hlt
      have HVR := Aside0.mk (vol_range HC.out HS.out.swap.blk_is HL.out j hlt hv)
      have hvm : vs[j]'(by rw [HL.out]; exact hlt) = v := by rw [← hv, List.getD_eq_getElem?_getD, List.getElem?_eq_getElem (by rw [HL.out]; exact hlt)]; rfl
      have HSM := Aside0.mk (show Small v from HFV.out v (hvm ▸ List.getElem_mem _))
      have HT := Aside0.mk (show (vs.take (j + 1)).flatMap volD = (vs.take j).flatMap volD ++ volD v from by rw [List.take_succ_eq_append_getElem (by rw [HL.out]; exact hlt), hvm, List.flatMap_append]; simp)
      have HLN := Aside0.mk (show l.length ≤ 200 from by
        rw [HLL.out, List.length_append, List.length_append, digits_length, digits_length, volsD_length _ (fun u hu => HFV.out u (List.mem_of_mem_take hu)), List.length_take]
        omega)
      obtain ⟨nm, ro, rt, nx⟩ := v
      have HN10 := Aside0.mk (show nm.size ≤ 10 from HSM.out.1)
      have k0 := HVR.out 0 _ rfl
      have k1 := HVR.out 1 _ rfl
      have k2 := HVR.out 2 _ rfl
      have k3 := HVR.out 3 _ rfl
      rw [Nat.add_zero] at k0
      have HS2 := Aside0.mk (show St w0 _ (row (Kd.int .u8) 5 (.slice A m c) l :: blk wr.heap.size #[.string nm, .bool ro, .int .i64 rt, .int .i64 nx] 25 :: blk w.heap.size C 28 :: ps) from (HS.out.alloc_ #[.string nm, .bool ro, .int .i64 rt, .int .i64 nx] 25).swap)
      clear hv hlt hvm
      go_wp2_with fail
      clear k0 k1 k2 k3
      refine (ref_Put.st HS2.out HS2.out.row_C.2.2 HS2.out.row_C.2.1 (nm.size : Int) 1 (by decide) (by decide) (by omega) (by have := HN10.out; show (nm.size : Int) < 256; omega) (by rw [HS2.out.row_C.1]; have := HLN.out; omega)).mono ?_
      rintro e w6 ⟨A6, m6, c6, l6, rfl, hl6, hs6⟩
      have HS6 := Aside0.mk hs6.swap.drop
      have HL6 := Aside0.mk hl6
      have HC6 := Aside0.mk (show m6 ≤ 201 from by rw [hs6.row_C.1, hl6, List.length_append, digits_length]; have := HLN.out; omega)
      have HS6L := Aside0.mk hs6.row_C.1
      clear hs6 hl6
      have k0 := blk_cell HS6.out.swap.blk_is 0
      have hpb := print_bytes (P := Try.prog) 9 22 5 Try.underlying9 Try.underlying22 Try.underlying5 nm
      have HBY := Aside0.mk (bytes_reads w6 5 nm (by have := HN10.out; omega))
      have HS7 := Aside0.mk (HS6.out.below_ (bytes_below (Below.refl w6.heap.size w6) (Nat.le_refl _) 5 nm))
      go_wp2_with (first | ((with_reducible refine gate_builtin (b := .append) (xs := #[.tmp 43, .tmp 46]) rfl ?_); at_builtin; refine St.append_rows (d := Kd.int .u8) rfl (.tmp 43) (.tmp 46) 22 5 (.int .u8 0) 1 rfl Try.underlying22 info5' rfl (by decide) (by decide) _ l6 (bytesOf nm) _ _ _ rfl rfl HS7.out (Kd.C_of_reads (d := (0 : Int)) (h1 := fun _ => rfl) HBY.out) (fun _ _ h => h) (show (l6.length + nm.size) * 1 ≤ 140737488355328 from by have := HC6.out; have := HN10.out; rw [← HS6.out.row_C.1]; omega) ?_; intro v7 w7 hs7; obtain ⟨A7, c7, he7⟩ := hs7.row_slice; obtain ⟨l7, hl7⟩ : ∃ l7, l6 ++ bytesOf nm = l7 := ⟨_, rfl⟩; rw [hl7] at hs7 he7; obtain ⟨m7, hm7⟩ : ∃ m, l7.length = m := ⟨_, rfl⟩; rw [hm7] at he7; subst he7; have HS8 := Aside0.mk hs7; have HL8 := Aside0.mk (show l7 = l6 ++ (bytesOf nm ++ List.replicate (nm.size - nm.size) 0) from by rw [← hl7]; simp); clear k0 hpb hs7 hl7 hm7; have k0 := blk_cell HS8.out.swap.blk_is 0))
      clear k0 HS6 HS7 HBY HS2 HS
      obtain ⟨VB, hVB⟩ : ∃ b, wr.heap.size = b := ⟨_, rfl⟩
      rw [hVB] at HS8 ⊢
      clear hVB
      go_loopw [7, 10] (fun bv kv wv => ∃ (k m c : Nat) (A : Option Addr) (lq : List Int), kv = .int .i64 k ∧ bv = .slice A m c ∧ nm.size ≤ k ∧ k ≤ 10 ∧ Aside0 (lq = l6 ++ (bytesOf nm ++ List.replicate (k - nm.size) 0)) ∧ Aside0 (St w0 wv (row (Kd.int .u8) 5 (.slice A m c) lq :: blk VB #[.string nm, .bool ro, .int .i64 rt, .int .i64 nx] 25 :: blk w.heap.size C 28 :: ps))) (fun _ kv _ => 10 - (intOf kv).toNat)
      case atStart => exact ⟨nm.size, m7, c7, A7, l7, rfl, rfl, Nat.le_refl _, HN10.out, HL8, HS8⟩
      case round =>
        clear HS8 HL8
        obtain ⟨k, mq, cq, Aq, lq, rfl, rfl, hkn, hk, HLQ, HSQ⟩ := hrel
        have HKN := Aside0.mk hkn
        have HMQ := Aside0.mk (show mq ≤ 211 from by
          have := SuperLem.bytesOf_length nm
          rw [HSQ.out.row_C.1, HLQ.out, List.length_append, List.length_append, List.length_replicate, ← HS6L.out]
          have := HC6.out
          omega)
        by_cases hkl : k < 10
        · have m1 : decide ((k : Int) < 10) = true := decide_eq_true (by omega)
          have m2 : (k : Int) < 10 := by omega
          have HKL := Aside0.mk hkl
          clear hkl hkn hk
          go_wp2_with (first
            | ((with_reducible refine gate_dst (N := 56) rfl ?_); refine Kd.R_lit (Kd.int .u8) _ 5 ?hg (N := 56) ?hd (xs := ([0] : List Int)) (inner := [.int .u8 0]) (ok := fun _ => True) (okp := fun _ => True) ?hr ?hp (fun _ hk => hk) trivial (Below.refl _ _) (Nat.le_refl _) (by simp) ?_; (case hd => rfl); (case hg => rfl); (case hr => first | (go_simp; done) | (go_simp; rfl)); (case hp => exact (Reps.one (show Kd.M (Kd.int .u8) _ _ _ 0 [.int .u8 0] from rfl) (Reps.none _ _))); intro vl wl ho hb hg_ hnew_; clear hg_ hnew_; obtain ⟨Al, cl, hel, hcl, hCl⟩ := Kd.R_reads ho; rw [show ([0] : List Int).length = 1 from rfl] at hel hCl; subst hel; have HSl := Aside0.mk (HSQ.out.row_new hb ho).swap; have HCl := Aside0.mk hCl; clear ho hb hcl hCl)
            | ((with_reducible refine gate_builtin (b := .append) (xs := #[.tmp 55, .tmp 56]) rfl ?_); at_builtin; refine St.append_rows (d := Kd.int .u8) rfl (.tmp 55) (.tmp 56) 22 5 (.int .u8 0) 1 rfl Try.underlying22 info5' rfl (by decide) (by decide) _ lq [0] _ _ _ rfl rfl HSl.out HCl.out (fun _ _ h => h) (show (lq.length + 1) * 1 ≤ 140737488355328 from by have := HMQ.out; rw [← HSQ.out.row_C.1]; omega) ?_; intro v9 w9 hs9; obtain ⟨A9, c9, he9⟩ := hs9.row_slice; obtain ⟨l9, hl9⟩ : ∃ l9, lq ++ [0] = l9 := ⟨_, rfl⟩; rw [hl9] at hs9 he9; obtain ⟨m9, hm9⟩ : ∃ m, l9.length = m := ⟨_, rfl⟩; rw [hm9] at he9; subst he9; have HS9 := Aside0.mk hs9.swap.drop; have HL9 := Aside0.mk (show l9 = l6 ++ (bytesOf nm ++ List.replicate (k + 1 - nm.size) 0) from by rw [← hl9, HLQ.out]; exact pad_step _ _ _ _ HKN.out); clear hs9 hl9 hm9))
          refine ⟨⟨k + 1, m9, c9, A9, l9, rfl, rfl, Nat.le_succ_of_le HKN.out, HKL.out, HL9, HS9⟩, meas_i k 10 HKL.out _ rfl⟩
        · obtain rfl : k = 10 := by omega
          have m1 : decide (((10 : Nat) : Int) < 10) = false := by decide
          have k1 := blk_cell HSQ.out.swap.blk_is 1
          have k2 := blk_cell HSQ.out.swap.blk_is 2
          have k3 := blk_cell HSQ.out.swap.blk_is 3
          clear hkl hkn hk
          cases ro with
          | true =>
            go_wp2_with fail
            go_region_held3 (fun w' => w'.cell? ⟨VB, 2, none⟩ = some (.int .i64 rt) ∧ w'.cell? ⟨VB, 3, none⟩ = some (.int .i64 nx)) (first | exact ⟨k2, k3⟩ | go_keep)
              (first
                | (go_at_call_of 31 (Value.slice Aq mq cq); refine (ref_Put.st HSQ.out.drew HSQ.out.drew.row_C.2.2 HSQ.out.row_C.2.1 1 1 (by decide) (by decide) (by decide) (by decide) (by have := HMQ.out; omega)).mono ?_; rintro e w8 ⟨A8, m8, c8, l8, rfl, hl8, hs8⟩; have HS8 := Aside0.mk hs8; have HL8 := Aside0.mk hl8; have HM8 := Aside0.mk (show m8 ≤ 212 from by rw [hs8.row_C.1, hl8, List.length_append, digits_length, ← HSQ.out.row_C.1]; have := HMQ.out; omega); clear k2 k3 hs8 hl8; have k2 := blk_cell (HS8.out.front 2).blk_is 2; have k3 := blk_cell (HS8.out.front 2).blk_is 3)
                | (go_at_call_of 31 (Value.slice A8 m8 c8); refine (ref_Put.st HS8.out HS8.out.row_C.2.2 HS8.out.row_C.2.1 rt 2 (by decide) (by decide) HSM.out.2.1.1 (by have := HSM.out.2.1.2; show rt < 65536; simp only at this; omega) (by have := HM8.out; omega)).mono ?_; rintro e w9 ⟨A9, m9, c9, l9, rfl, hl9, hs9⟩; have HS9 := Aside0.mk hs9; have HL9 := Aside0.mk hl9; have HM9 := Aside0.mk (show m9 ≤ 214 from by rw [hs9.row_C.1, hl9, List.length_append, digits_length, ← HS8.out.row_C.1]; have := HM8.out; omega); clear k2 k3 hs9 hl9; have k2 := blk_cell (HS9.out.front 3).blk_is 2; have k3 := blk_cell (HS9.out.front 3).blk_is 3)
                | (go_at_call_of 31 (Value.slice A9 m9 c9); refine (ref_Put.st HS9.out HS9.out.row_C.2.2 HS9.out.row_C.2.1 nx 4 (by decide) (by decide) HSM.out.2.2.1 (by have := HSM.out.2.2.2; show nx < 4294967296; simp only at this; omega) (by have := HM9.out; omega)).mono ?_; rintro e wz ⟨Az, mz, cz, lz, rfl, hlz, hsz⟩; have HSZ := Aside0.mk hsz; have HLZ := Aside0.mk hlz; clear k2 k3 hsz hlz; have k2 := blk_cell (HSZ.out.front 4).blk_is 2; have k3 := blk_cell (HSZ.out.front 4).blk_is 3))
            clear k1 k2 k3
            go_wp2_with fail
            refine ⟨⟨j + 1, mz, cz, Az, lz, rfl, rfl, HLT.out, ?_, ?_⟩, meas_i j 8 HLT.out _ rfl⟩
            · exact Aside0.mk (by rw [HLZ.out, HL9.out, HL8.out, HLQ.out, HL6.out, HLL.out, HT.out]; unfold volD flagI; simp only [List.append_assoc]; rfl)
            · exact Aside0.mk (HSZ.out.swap.drop.swap.drop.swap.drop.swap.drop)
          | false =>
            go_wp2_with fail
            go_region_held3 (fun w' => w'.cell? ⟨VB, 2, none⟩ = some (.int .i64 rt) ∧ w'.cell? ⟨VB, 3, none⟩ = some (.int .i64 nx)) (first | exact ⟨k2, k3⟩ | go_keep)
              (first
                | (go_at_call_of 31 (Value.slice Aq mq cq); refine (ref_Put.st HSQ.out.drew HSQ.out.drew.row_C.2.2 HSQ.out.row_C.2.1 0 1 (by decide) (by decide) (by decide) (by decide) (by have := HMQ.out; omega)).mono ?_; rintro e w8 ⟨A8, m8, c8, l8, rfl, hl8, hs8⟩; have HS8 := Aside0.mk hs8; have HL8 := Aside0.mk hl8; have HM8 := Aside0.mk (show m8 ≤ 212 from by rw [hs8.row_C.1, hl8, List.length_append, digits_length, ← HSQ.out.row_C.1]; have := HMQ.out; omega); clear k2 k3 hs8 hl8; have k2 := blk_cell (HS8.out.front 2).blk_is 2; have k3 := blk_cell (HS8.out.front 2).blk_is 3)
                | (go_at_call_of 31 (Value.slice A8 m8 c8); refine (ref_Put.st HS8.out HS8.out.row_C.2.2 HS8.out.row_C.2.1 rt 2 (by decide) (by decide) HSM.out.2.1.1 (by have := HSM.out.2.1.2; show rt < 65536; simp only at this; omega) (by have := HM8.out; omega)).mono ?_; rintro e w9 ⟨A9, m9, c9, l9, rfl, hl9, hs9⟩; have HS9 := Aside0.mk hs9; have HL9 := Aside0.mk hl9; have HM9 := Aside0.mk (show m9 ≤ 214 from by rw [hs9.row_C.1, hl9, List.length_append, digits_length, ← HS8.out.row_C.1]; have := HM8.out; omega); clear k2 k3 hs9 hl9; have k2 := blk_cell (HS9.out.front 3).blk_is 2; have k3 := blk_cell (HS9.out.front 3).blk_is 3)
                | (go_at_call_of 31 (Value.slice A9 m9 c9); refine (ref_Put.st HS9.out HS9.out.row_C.2.2 HS9.out.row_C.2.1 nx 4 (by decide) (by decide) HSM.out.2.2.1 (by have := HSM.out.2.2.2; show nx < 4294967296; simp only at this; omega) (by have := HM9.out; omega)).mono ?_; rintro e wz ⟨Az, mz, cz, lz, rfl, hlz, hsz⟩; have HSZ := Aside0.mk hsz; have HLZ := Aside0.mk hlz; clear k2 k3 hsz hlz; have k2 := blk_cell (HSZ.out.front 4).blk_is 2; have k3 := blk_cell (HSZ.out.front 4).blk_is 3))
            clear k1 k2 k3
            go_wp2_with fail
            refine ⟨⟨j + 1, mz, cz, Az, lz, rfl, rfl, HLT.out, ?_, ?_⟩, meas_i j 8 HLT.out _ rfl⟩
            · exact Aside0.mk (by rw [HLZ.out, HL9.out, HL8.out, HLQ.out, HL6.out, HLL.out, HT.out]; unfold volD flagI; simp only [List.append_assoc]; rfl)
            · exact Aside0.mk (HSZ.out.swap.drop.swap.drop.swap.drop.swap.drop)
    · obtain rfl : j = 8 := by omega
      have l1 : decide (((8 : Nat) : Int) < 8) = false := by decide
      have k0 := (blk_cell HS.out.swap.blk_is 0).trans (show C[0]? = some (.int .i64 g) from by rw [← HC.out]; rfl)
      have HW := Aside0.mk (show sealR 1 slot 0 0 g l = writeR ⟨g, sec, lg, vs⟩ slot from by
        have e1 : l = bodyD ⟨g, sec, lg, vs⟩ := by rw [HLL.out, List.take_of_length_le (by rw [HL.out]; decide)]; rfl
        have e2 := sealR_sup (s := ⟨g, sec, lg, vs⟩) HL.out (may_fine HL.out HMB.out) HSL.out
        unfold writeR
        rw [e1, if_pos ⟨HMB.out, HSL.out⟩]
        exact e2)
      go_wp2_with fail
      refine (ref_Seal.st HS.out HS.out.row_C.2.2 HS.out.row_C.2.1 1 slot 0 0 g).mono ?_
      rintro e w9 ⟨A9, m9, c9, rfl, hs9⟩
      rw [HW.out] at hs9 ⊢
      have HS9 := Aside0.mk hs9
      clear hs9
      go_wp2_with fail
      go_ret2
      exact ⟨A9, m9, c9, rfl, HS9.out.swap.drop.swap.drop⟩
end Go.Proofs.Ytjpebckmjlmkmaa.P
