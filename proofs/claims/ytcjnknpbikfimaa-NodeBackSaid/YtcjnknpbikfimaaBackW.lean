/- The law NodeBack, walked. -/
import Derived.Test.YtcjnknpbikfimaaFew
import Derived.Test.YtcjnknpbikfimaaNodeF
import Derived.Test.YtcjnknpbikfimaaPx13
import Derived.Test.YtcjnknpbikfimaaPx7
import Derived.Test.YtcjnknpbikfimaaPx11
import Derived.Test.YtcjnknpbikfimaaPx27
import Derived.Test.YtcjnknpbikfimaaPx33
namespace Go.Proofs.Ytcjnknpbikfimaa.P
open Go.RowKit Go.Proofs.YtcjnknpbikfimaaW.PrintWords Go.Proofs.YtcjnknpbikfimaaW.PrintLast Go.Proofs.YtcjnknpbikfimaaW.PrintMore Go.Proofs.Ytcjnknpbikfimaa.Sep Go.Proofs.Ytcjnknpbikfimaa.NodeLem
set_option linter.unusedVariables false
set_option linter.unusedSimpArgs false
/-- The place that is turned, and how. -/
def turnAt (x : Int) : Nat := (Int.tmod x 256).natAbs
def turnBy (x : Int) : Int := if x % 256 = 0 then 1 else x % 256
theorem tmod_low (x : Int) : -256 < Int.tmod x 256 := by
  have h := Int.tmod_lt_of_pos (-x) (show (0 : Int) < 256 by decide)
  rw [Int.neg_tmod] at h
  omega
theorem turnAt_lt (x : Int) : turnAt x < 256 := by
  unfold turnAt
  have h1 := Int.tmod_lt_of_pos x (show (0 : Int) < 256 by decide)
  have h2 := tmod_low x
  omega
theorem turnAt_is (x : Int) : (Int.tmod x 256 < 0 ∧ wrap64 (-Int.tmod x 256) = (turnAt x : Nat)) ∨ (¬ Int.tmod x 256 < 0 ∧ Int.tmod x 256 = (turnAt x : Nat)) := by
  have h1 := Int.tmod_lt_of_pos x (show (0 : Int) < 256 by decide)
  have h2 := tmod_low x
  unfold turnAt wrap64
  generalize Int.tmod x 256 = y at *
  omega
theorem C_few {α : Type} {k : Kd α} {w : World} {A : Option Addr} {l : List α} (h : k.C w A l.length l) : k.C w A (l.take 20).length (l.take 20) := by
  by_cases q : 20 ≤ l.length
  · exact Kd.C_take h q
  · rw [List.take_of_length_le (by omega)]; exact h
theorem min20 {α : Type} (l : List α) : min l.length 20 = (l.take 20).length := by rw [List.length_take, Nat.min_comm]
def nodeF (lv : Int) (A1 : Option Addr) (n c1 : Nat) (A2 : Option Addr) (m c2 : Nat) : Array Value := #[.int .i64 lv, .slice A1 n c1, .slice A2 m c2]
def pairF (a b : Int) : Array Value := #[.int .i64 a, .int .i64 b]
theorem bytesV_of {l : List S52} (h : ∀ y ∈ l, (((Lit.int .i64 y.f0.f0).wf = true ∧ (Lit.int .i64 y.f0.f1).wf = true ∧ (Lit.int .i64 y.f0.f2).wf = true) ∧ (y.f1.length ≤ maxLen ∧ ∀ z ∈ y.f1, (Lit.int .u8 z).wf = true))) : BytesV (l.take 20) := by
  intro j hj
  have hm : (l.take 20).getD j z52 ∈ l := by
    rw [List.getD_eq_getElem?_getD, List.getElem?_eq_getElem hj]
    exact List.mem_of_mem_take (List.getElem_mem hj)
  exact NumLem.Bytes.of_wf (h _ hm).2.2
set_option maxHeartbeats 8000000 in
set_option maxRecDepth 100000 in
theorem NodeBack_law (z0f0_n : Int) (z0f1_A : Option Addr) (z0f1_c : Nat) (z0f1_l : (List S52)) (z0f2_A : Option Addr) (z0f2_c : Nat) (z0f2_l : (List S57)) (z1f0_n : Int) (z1f1_n : Int) (z2f0_n : Int) (z2f1_n : Int) (w : World) (h0 : Aside0 ((Lit.int .i64 z0f0_n).wf = true ∧ z0f1_l.length ≤ z0f1_c ∧ Kd.C k52 w z0f1_A z0f1_l.length z0f1_l ∧ (z0f1_l.length ≤ maxLen ∧ ∀ y0_ ∈ z0f1_l, (((Lit.int .i64 y0_.f0.f0).wf = true ∧ (Lit.int .i64 y0_.f0.f1).wf = true ∧ (Lit.int .i64 y0_.f0.f2).wf = true) ∧ (y0_.f1.length ≤ maxLen ∧ ∀ y1_ ∈ y0_.f1, (Lit.int .u8 y1_).wf = true))) ∧ z0f2_l.length ≤ z0f2_c ∧ Kd.C k57 w z0f2_A z0f2_l.length z0f2_l ∧ (z0f2_l.length ≤ maxLen ∧ ∀ y0_ ∈ z0f2_l, (((Lit.int .i64 y0_.f0.f0).wf = true ∧ (Lit.int .i64 y0_.f0.f1).wf = true ∧ (Lit.int .i64 y0_.f0.f2).wf = true) ∧ (Lit.int .i64 y0_.f1).wf = true)))) (h1 : Aside0 ((Lit.int .i64 z1f0_n).wf = true ∧ (Lit.int .i64 z1f1_n).wf = true)) (h2 : Aside0 ((Lit.int .i64 z2f0_n).wf = true ∧ (Lit.int .i64 z2f1_n).wf = true)) :
    Calls Try.prog 8 #[.agg #[.int .i64 z0f0_n, .slice z0f1_A z0f1_l.length z0f1_c, .slice z0f2_A z0f2_l.length z0f2_c], .agg #[.int .i64 z1f0_n, .int .i64 z1f1_n], .agg #[.int .i64 z2f0_n, .int .i64 z2f1_n]] w fun e w' => e = .returned (.bool true) ∧ Below w.heap.size w w' := by
  obtain ⟨_, hc1, hr1, hwf, hc2, hr2, _⟩ := h0.out
  have HBV := Aside0.mk (bytesV_of hwf.2)
  clear h0 h1 h2 hwf
  have HR1 := Aside0.mk hr1
  have HR2 := Aside0.mk hr2
  have HC1 := Aside0.mk (List.length_take_le 20 z0f1_l)
  have HC2 := Aside0.mk (List.length_take_le 20 z0f2_l)
  have HD1 := Aside0.mk (show (z0f1_l.take 20).length ≤ z0f1_c from Nat.le_trans (List.length_take_le' 20 z0f1_l) hc1)
  have HD2 := Aside0.mk (show (z0f2_l.take 20).length ≤ z0f2_c from Nat.le_trans (List.length_take_le' 20 z0f2_l) hc2)
  have FW := few.st z0f0_n z0f1_A z0f1_l.length z0f1_c z0f2_A z0f2_l.length z0f2_c
  rw [min20, min20] at FW
  have HS0 := Aside0.mk ((((St.start w).alloc_ (nodeF z0f0_n z0f1_A z0f1_l.length z0f1_c z0f2_A z0f2_l.length z0f2_c) 25).alloc_ (pairF z1f0_n z1f1_n) 49).alloc_ (pairF z2f0_n z2f1_n) 49)
  have HFW := Aside0.mk FW
  have HCC := Aside0.mk (And.intro hc1 hc2)
  clear FW hr1 hr2 hc1 hc2
  rw [show ((w.alloc (.cells (nodeF z0f0_n z0f1_A z0f1_l.length z0f1_c z0f2_A z0f2_l.length z0f2_c) 25)).alloc (.cells (pairF z1f0_n z1f1_n) 49)).heap.size = w.heap.size + 1 + 1 from by simp, show (w.alloc (.cells (nodeF z0f0_n z0f1_A z0f1_l.length z0f1_c z0f2_A z0f2_l.length z0f2_c) 25)).heap.size = w.heap.size + 1 from by simp] at HS0
  go_enter Try.func8, Try.ntmps8
  go_wp2_with fail
  refine (cambiumlaw06_shown.calls true _ rfl).mono ?_
  rintro e w1 ⟨rfl, hb⟩
  have HS1 := Aside0.mk (St.front 2 (HS0.out.below_ hb))
  clear hb HS0
  have n0 : w1.cell? ⟨w.heap.size, 0, none⟩ = some (.int .i64 z0f0_n) := blk_cell HS1.out.blk_is 0
  have n1 : w1.cell? ⟨w.heap.size, 1, none⟩ = some (.slice z0f1_A z0f1_l.length z0f1_c) := blk_cell HS1.out.blk_is 1
  have n2 : w1.cell? ⟨w.heap.size, 2, none⟩ = some (.slice z0f2_A z0f2_l.length z0f2_c) := blk_cell HS1.out.blk_is 2
  go_wp2_with fail
  refine (HFW.out w1 HCC.out.1 HCC.out.2).mono ?_
  rintro e w2 ⟨rfl, hb⟩
  have HS2 := Aside0.mk (HS1.out.below_ hb)
  clear hb HS1 n0 n1 n2 HFW HCC
  obtain ⟨l, hl⟩ : ∃ l, z0f1_l.take 20 = l := ⟨_, rfl⟩
  obtain ⟨m, hm⟩ : ∃ m, z0f2_l.take 20 = m := ⟨_, rfl⟩
  have HRL := Aside0.mk (show Kd.C k52 w z0f1_A l.length l from hl ▸ C_few HR1.out)
  have HRM := Aside0.mk (show Kd.C k57 w z0f2_A m.length m from hm ▸ C_few HR2.out)
  rw [hl] at HC1 HD1 HBV ⊢
  rw [hm] at HC2 HD2 ⊢
  clear HR1 HR2 hl hm
  have HS3 := Aside0.mk (show St w _ [blk w.heap.size (nodeF z0f0_n z0f1_A l.length z0f1_c z0f2_A m.length z0f2_c) 25, blk (w.heap.size + 1 + 1) (pairF z2f0_n z2f1_n) 49, blk (w.heap.size + 1) (pairF z1f0_n z1f1_n) 49] from ((HS2.out.blk_set 0 (.int .i64 z0f0_n)).blk_set 1 (.slice z0f1_A l.length z0f1_c)).blk_set 2 (.slice z0f2_A m.length z0f2_c))
  have n0 : w2.cell? ⟨w.heap.size, 0, none⟩ = some (.int .i64 z0f0_n) := blk_cell HS2.out.blk_is 0
  have n1 : w2.cell? ⟨w.heap.size, 1, none⟩ = some (.slice z0f1_A z0f1_l.length z0f1_c) := blk_cell HS2.out.blk_is 1
  have n2 : w2.cell? ⟨w.heap.size, 2, none⟩ = some (.slice z0f2_A z0f2_l.length z0f2_c) := blk_cell HS2.out.blk_is 2
  have f0 := blk_frozen HS2.out.blk_is 0
  have f1 := blk_frozen HS2.out.blk_is 1
  have f2 := blk_frozen HS2.out.blk_is 2
  clear HS2
  go_wp2_with fail
  generalize (((w2.setCell ⟨w.heap.size, 0, none⟩ (.int .i64 z0f0_n)).setCell ⟨w.heap.size, 1, none⟩ (.slice z0f1_A l.length z0f1_c)).setCell ⟨w.heap.size, 2, none⟩ (.slice z0f2_A m.length z0f2_c)) = w3 at HS3 ⊢
  clear n0 n1 n2 f0 f1 f2
  refine (node_May.calls 200 z0f0_n z0f1_A z0f1_c l z0f2_A z0f2_c m (mayR z0f0_n l m) w3 (Kd.C_below HRL.out HS3.out.below) HD1.out (Kd.C_below HRM.out HS3.out.below) HD2.out (May_is 200 _ _ _ (Nat.le_trans HC1.out (by decide)) (Nat.le_trans HC2.out (by decide)) (by have := HC1.out; have := HC2.out; omega))).mono ?_
  rintro e w4 ⟨rfl, hb⟩
  have HS4 := Aside0.mk (HS3.out.below_ hb)
  clear hb HS3
  obtain ⟨my, hmy⟩ : ∃ my, mayR z0f0_n l m = my := ⟨_, rfl⟩
  have HMY := Aside0.mk hmy
  rw [hmy]
  clear hmy
  have n0 : w4.cell? ⟨w.heap.size, 0, none⟩ = some (.int .i64 z0f0_n) := blk_cell HS4.out.blk_is 0
  have n1 : w4.cell? ⟨w.heap.size, 1, none⟩ = some (.slice z0f1_A l.length z0f1_c) := blk_cell HS4.out.blk_is 1
  have n2 : w4.cell? ⟨w.heap.size, 2, none⟩ = some (.slice z0f2_A m.length z0f2_c) := blk_cell HS4.out.blk_is 2
  have x0 : w4.cell? ⟨w.heap.size + 1, 0, none⟩ = some (.int .i64 z1f0_n) := blk_cell (St.front 2 HS4.out).blk_is 0
  have x1 : w4.cell? ⟨w.heap.size + 1, 1, none⟩ = some (.int .i64 z1f1_n) := blk_cell (St.front 2 HS4.out).blk_is 1
  cases my with
  | false =>
    go_wp2
    go_ret
    exact ⟨rfl, HS4.out.below⟩
  | true =>
    by_cases hs : sealMay (if z0f0_n > 0 then 4 else 3) z1f0_n ((l.length + m.length : Nat) : Int) z0f0_n z1f1_n = true
    · obtain ⟨B, hw, hlen, hR1, hR2, hR3⟩ := write_yes z0f0_n l m z1f0_n z1f1_n HMY.out HBV.out hs
      have HR1 := Aside0.mk hR1
      have HR2 := Aside0.mk hR2
      have HR3 := Aside0.mk hR3
      have HW := Aside0.mk hw
      have HLN := Aside0.mk hlen
      clear hs hR1 hR2 hR3 hw hlen
      go_wp2_with fail
      refine (node_Write.calls 200 z0f0_n z0f1_A z0f1_c l z0f2_A z0f2_c m z1f0_n z1f1_n B 0 w4 (Kd.C_below HRL.out HS4.out.below) HD1.out (Kd.C_below HRM.out HS4.out.below) HD2.out ((Write_is 200 _ _ _ _ _ HC1.out HC2.out (by decide)).trans (congrArg some HW.out))).mono ?_
      rintro e w5 ⟨v, rfl, hr, hb⟩
      have HS5 := Aside0.mk (HS4.out.row_new hb hr)
      clear hb hr HS4 n0 n1 n2 x0 x1
      obtain ⟨A, c, rfl⟩ := HS5.out.row_slice
      have n0 : w5.cell? ⟨w.heap.size, 0, none⟩ = some (.int .i64 z0f0_n) := blk_cell (St.front 1 HS5.out).blk_is 0
      have n1 : w5.cell? ⟨w.heap.size, 1, none⟩ = some (.slice z0f1_A l.length z0f1_c) := blk_cell (St.front 1 HS5.out).blk_is 1
      have n2 : w5.cell? ⟨w.heap.size, 2, none⟩ = some (.slice z0f2_A m.length z0f2_c) := blk_cell (St.front 1 HS5.out).blk_is 2
      have x0 : w5.cell? ⟨w.heap.size + 1, 0, none⟩ = some (.int .i64 z1f0_n) := blk_cell (St.front 3 HS5.out).blk_is 0
      go_wp2_with fail
      refine (node_Read.calls 600 A c B z1f0_n z0f0_n l m 0 w5 HS5.out.row_C.2.2 HS5.out.row_C.2.1 HR1.out).mono ?_
      rintro e w6 ⟨v1, v2, rfl, hN, hR, hb⟩
      obtain ⟨A1, c1, rfl, hq1, hC1⟩ := Kd.N_reads hN
      obtain ⟨A2, c2, rfl, hq2, hC2⟩ := Kd.R_reads hR
      have HQ := Aside0.mk (And.intro hq1 hq2)
      have HK1 := Aside0.mk (Kd.C_alloc hC1 (.cells (nodeF z0f0_n A1 l.length c1 A2 m.length c2) 25))
      have HK2 := Aside0.mk (Kd.C_alloc hC2 (.cells (nodeF z0f0_n A1 l.length c1 A2 m.length c2) 25))
      have HS6 := Aside0.mk (St.swap ((HS5.out.below_ hb).alloc_ (nodeF z0f0_n A1 l.length c1 A2 m.length c2) 25))
      clear hb hN hR hq1 hq2 hC1 hC2 HS5 n0 n1 n2 x0
      have x0 : (w6.alloc (.cells #[.int .i64 z0f0_n, .slice A1 l.length c1, .slice A2 m.length c2] 25)).cell? ⟨w.heap.size + 1, 0, none⟩ = some (.int .i64 z1f0_n) := blk_cell (St.front 4 HS6.out).blk_is 0
      go_wp2_with fail
      refine (node_Read.calls 600 A c B (Go.bits .xor .i64 z1f0_n 1) 0 [] [] 3 _ HS6.out.row_C.2.2 HS6.out.row_C.2.1 HR2.out).mono ?_
      rintro e w8 ⟨v1, v2, rfl, hN, hR, hb⟩
      obtain ⟨A3, c3, rfl, hq1, hC1⟩ := Kd.N_reads hN
      obtain ⟨A4, c4, rfl, hq2, hC2⟩ := Kd.R_reads hR
      rw [List.length_nil, List.length_nil]
      have HS9 := Aside0.mk (St.alloc (HS6.out.below_ hb) (.cells #[.int .i64 0, .slice A3 0 c3, .slice A4 0 c4] 25))
      have HK91 := Aside0.mk (Kd.C_alloc (Kd.C_below HK1.out hb) (.cells #[.int .i64 0, .slice A3 0 c3, .slice A4 0 c4] 25))
      have HK92 := Aside0.mk (Kd.C_alloc (Kd.C_below HK2.out hb) (.cells #[.int .i64 0, .slice A3 0 c3, .slice A4 0 c4] 25))
      clear hb hN hR hq1 hq2 hC1 hC2 HS6 HK1 HK2 x0
      obtain ⟨g6, hg6⟩ : ∃ g6, w6.heap.size = g6 := ⟨_, rfl⟩
      rw [hg6] at HS9 ⊢
      clear hg6
      have n0 : (w8.alloc (.cells #[.int .i64 0, .slice A3 0 c3, .slice A4 0 c4] 25)).cell? ⟨w.heap.size, 0, none⟩ = some (.int .i64 z0f0_n) := blk_cell (St.front 2 HS9.out).blk_is 0
      have n1 : (w8.alloc (.cells #[.int .i64 0, .slice A3 0 c3, .slice A4 0 c4] 25)).cell? ⟨w.heap.size, 1, none⟩ = some (.slice z0f1_A l.length z0f1_c) := blk_cell (St.front 2 HS9.out).blk_is 1
      have n2 : (w8.alloc (.cells #[.int .i64 0, .slice A3 0 c3, .slice A4 0 c4] 25)).cell? ⟨w.heap.size, 2, none⟩ = some (.slice z0f2_A m.length z0f2_c) := blk_cell (St.front 2 HS9.out).blk_is 2
      have m0 : (w8.alloc (.cells #[.int .i64 0, .slice A3 0 c3, .slice A4 0 c4] 25)).cell? ⟨g6, 0, none⟩ = some (.int .i64 z0f0_n) := blk_cell (St.front 1 HS9.out).blk_is 0
      have m1 : (w8.alloc (.cells #[.int .i64 0, .slice A3 0 c3, .slice A4 0 c4] 25)).cell? ⟨g6, 1, none⟩ = some (.slice A1 l.length c1) := blk_cell (St.front 1 HS9.out).blk_is 1
      have m2 : (w8.alloc (.cells #[.int .i64 0, .slice A3 0 c3, .slice A4 0 c4] 25)).cell? ⟨g6, 2, none⟩ = some (.slice A2 m.length c2) := blk_cell (St.front 1 HS9.out).blk_is 2
      go_wp2_with fail
      refine (cambiumref06_Same.calls 100 z0f0_n z0f1_A z0f1_c l z0f2_A z0f2_c m z0f0_n A1 c1 l A2 c2 m true _ (Kd.C_below HRL.out HS9.out.below) HD1.out (Kd.C_below HRM.out HS9.out.below) HD2.out HK91.out HQ.out.1 HK92.out HQ.out.2 (Same_refl 100 _ _ _ (Nat.le_trans HC1.out (by decide)) (Nat.le_trans HC2.out (by decide)) (by have := HC1.out; have := HC2.out; omega))).mono ?_
      rintro e w10 ⟨rfl, hb⟩
      have HS10 := Aside0.mk (HS9.out.below_ hb)
      clear hb HS9 HK91 HK92 n0 n1 n2 m0 m1 m2
      have hmlt := turnAt_lt z2f0_n
      have hmk := turnAt_is z2f0_n
      generalize turnAt z2f0_n = q at *
      have HML := Aside0.mk (show q < B.length from by rw [HLN.out]; exact hmlt)
      have hk : (decide (Int.tmod z2f0_n 256 < 0) = true ∧ wrap64 (-Int.tmod z2f0_n 256) = (q : Int)) ∨ (decide (Int.tmod z2f0_n 256 < 0) = false ∧ Int.tmod z2f0_n 256 = (q : Int)) := by
        rcases hmk with ⟨hn, hw⟩ | ⟨hn, hw⟩
        · exact Or.inl ⟨decide_eq_true hn, hw⟩
        · exact Or.inr ⟨decide_eq_false hn, hw⟩
      obtain ⟨v, hvv⟩ : ∃ v, v = turnBy z2f1_n := ⟨_, rfl⟩
      have hq : ((z2f1_n % 256 == 0) = true ∧ v = 1) ∨ ((z2f1_n % 256 == 0) = false ∧ v = z2f1_n % 256) := by
        rw [hvv]
        unfold turnBy
        by_cases hz : z2f1_n % 256 = 0
        · rw [if_pos hz]; exact Or.inl ⟨by simpa using hz, rfl⟩
        · rw [if_neg hz]; exact Or.inr ⟨by simpa using hz, rfl⟩
      have HV3 := Aside0.mk (HR3.out q v (by rw [← HLN.out]; exact HML.out) (by rw [hvv]; unfold turnBy; split <;> omega) (by rw [hvv]; unfold turnBy; split <;> omega))
      clear hmk hmlt hvv HR3
      obtain ⟨gb, hA, hcl, hfz, hset⟩ := HS10.out.row_at q HML.out (0 : Int)
      subst hA
      rw [show B.getD q 0 = rd B (q : Int) from by unfold rd; rw [Int.toNat_natCast]] at hcl
      obtain ⟨b, hbv⟩ : ∃ b, rd B (q : Int) = b := ⟨_, rfl⟩
      rw [hbv] at hcl HV3
      have HSET := Aside0.mk (hset (Go.bits .xor .u8 b v))
      clear hset hbv
      have y0 : w10.cell? ⟨w.heap.size + 1 + 1, 0, none⟩ = some (.int .i64 z2f0_n) := blk_cell (St.front 3 HS10.out).blk_is 0
      have y1 : w10.cell? ⟨w.heap.size + 1 + 1, 1, none⟩ = some (.int .i64 z2f1_n) := blk_cell (St.front 3 HS10.out).blk_is 1
      have hq1 : (0 : Int) ≤ (q : Int) := Int.natCast_nonneg q
      have hq2 : (q : Int) < (B.length : Int) := Int.ofNat_lt.2 HML.out
      have hX : (w10.setCell ⟨gb, q, none⟩ (.int .u8 (Go.bits .xor .u8 b v))).cell? ⟨w.heap.size + 1, 0, none⟩ = some (.int .i64 z1f0_n) := blk_cell (St.front 4 HSET.out).blk_is 0
      have hBL : (B.set q (Go.bits .xor .u8 b v)).length = B.length := List.length_set
      rcases hk with ⟨hk1, hk2⟩ | ⟨hk1, hk2⟩ <;> rcases hq with ⟨hq3, rfl⟩ | ⟨hq3, rfl⟩
      all_goals
        go_wp2_with fail
        clear y0 y1 hcl hfz hk1 hk2
        have hcn := HSET.out.row_C
        have K1 := node_Read.calls 600 (some ⟨gb, 0, none⟩) c _ z1f0_n 0 [] [] 3 _ (by rw [hBL]; exact hcn.2.2) (by rw [hBL]; exact hcn.2.1) HV3.out
        rw [hBL] at K1
        refine K1.mono ?_
        clear K1 hcn hBL
        rintro e w11 ⟨v1, v2, rfl, hN, hR, hb⟩
        obtain ⟨A5, c5, rfl, _, _⟩ := Kd.N_reads hN
        obtain ⟨A6, c6, rfl, _, _⟩ := Kd.R_reads hR
        rw [List.length_nil, List.length_nil]
        have HS11 := Aside0.mk (fun o => ((HSET.out.below_ hb).alloc o).below)
        clear hb hN hR HSET HS10 hX
        go_wp2
        go_ret
        exact ⟨rfl, HS11.out _⟩
    · obtain ⟨hw, hor⟩ := write_no z0f0_n l m z1f0_n z1f1_n HMY.out hs
      have HW := Aside0.mk hw
      clear hs hw
      go_wp2_with fail
      refine (node_Write.calls 200 z0f0_n z0f1_A z0f1_c l z0f2_A z0f2_c m z1f0_n z1f1_n [] 1 w4 (Kd.C_below HRL.out HS4.out.below) HD1.out (Kd.C_below HRM.out HS4.out.below) HD2.out ((Write_is 200 _ _ _ _ _ HC1.out HC2.out (by decide)).trans (congrArg some HW.out))).mono ?_
      rintro e w5 ⟨v, rfl, hr, hb⟩
      have HS5 := Aside0.mk (HS4.out.below_ hb)
      clear hb hr HS4 n0 n1 n2 x0 x1
      have x0 : w5.cell? ⟨w.heap.size + 1, 0, none⟩ = some (.int .i64 z1f0_n) := blk_cell (St.front 2 HS5.out).blk_is 0
      have x1 : w5.cell? ⟨w.heap.size + 1, 1, none⟩ = some (.int .i64 z1f1_n) := blk_cell (St.front 2 HS5.out).blk_is 1
      by_cases k1 : z1f0_n < 0
      · have d1 : decide (z1f0_n < 0) = true := decide_eq_true k1
        clear hor k1
        go_wp2
        go_ret
        exact ⟨rfl, HS5.out.below⟩
      · have d1 : decide (z1f0_n < 0) = false := decide_eq_false k1
        by_cases k2 : z1f0_n ≥ 2048
        · have d2 : decide (z1f0_n ≥ 2048) = true := decide_eq_true k2
          clear hor k1 k2
          go_wp2
          go_ret
          exact ⟨rfl, HS5.out.below⟩
        · have d2 : decide (z1f0_n ≥ 2048) = false := decide_eq_false k2
          by_cases k3 : z1f1_n < 0
          · have d3 : decide (z1f1_n < 0) = true := decide_eq_true k3
            clear hor k1 k2 k3
            go_wp2
            go_ret
            exact ⟨rfl, HS5.out.below⟩
          · have d3 : decide (z1f1_n < 0) = false := decide_eq_false k3
            have d4 : decide (z1f1_n > 1099511627775) = true := decide_eq_true (by omega)
            clear hor k1 k2 k3
            go_wp2
            go_ret
            exact ⟨rfl, HS5.out.below⟩
end Go.Proofs.Ytcjnknpbikfimaa.P
