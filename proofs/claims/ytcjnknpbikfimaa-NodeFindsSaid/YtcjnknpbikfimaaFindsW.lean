/- The law NodeFinds, walked. -/
import Derived.Test.YtcjnknpbikfimaaFew
import Derived.Test.YtcjnknpbikfimaaNodeC
import Derived.Test.YtcjnknpbikfimaaNodeAR
import Derived.Test.YtcjnknpbikfimaaSteps
import Derived.Test.YtcjnknpbikfimaaPx13
import Derived.Test.YtcjnknpbikfimaaPx7
import Derived.Test.YtcjnknpbikfimaaPx12
import Derived.Test.YtcjnknpbikfimaaPx35
import Derived.Test.YtcjnknpbikfimaaPx14
import Derived.Test.YtcjnknpbikfimaaPx14
import Derived.Test.YtcjnknpbikfimaaPx1
namespace Go.Proofs.Ytcjnknpbikfimaa.P
open Go.RowKit Go.Proofs.YtcjnknpbikfimaaW.PrintWords Go.Proofs.YtcjnknpbikfimaaW.PrintLast Go.Proofs.YtcjnknpbikfimaaW.PrintMore Go.Proofs.Ytcjnknpbikfimaa.Sep Go.Proofs.Ytcjnknpbikfimaa.NodeLem
set_option linter.unusedVariables false
set_option linter.unusedSimpArgs false
attribute [local go_sem high] eqA35
def fnd10_T : Bool × List (List Nat × List Nat) := (true, [([], []), ([0], [0]), ([1], [1]), ([2], [2]), ([2], [2]), ([2], [2]), ([4, 5, 2], [2, 4, 5]), ([6, 2], [2, 6]), ([3, 7, 2, 2], [2, 3, 7]), ([8, 2], [2, 8]), ([2, 9], [2, 9]), ([10, 8, 0, 1, 2, 3, 4, 5, 6, 7, 8, 9, 10], [10])])
def fnd10_B : List Nat := [0, 1, 3, 7, 7, 7, 55, 119, 255, 511, 1023, 2047]
theorem fnd10_tab : rtab .any (opsOf Try.f5 10) = fnd10_T := by kernel_rfl
theorem fnd10_bits : waitsOk fnd10_T.2 fnd10_B = true := by kernel_rfl
def fnd11_T : Bool × List (List Nat × List Nat) := (true, [([], []), ([], []), ([1], [1]), ([2], [2]), ([0, 3], [0, 3]), ([4], [4]), ([5], [5]), ([5], [5]), ([5], [5]), ([8, 5], [5, 8]), ([7, 9, 5], [5, 7, 9]), ([10, 5], [5, 10]), ([6, 11, 5, 5], [5, 6, 11]), ([5, 12], [5, 12]), ([13, 12, 0, 1, 2, 3, 4, 5, 6, 7, 8, 9, 10, 11, 12, 13], [13])])
def fnd11_B : List Nat := [0, 0, 2, 6, 15, 31, 63, 63, 63, 319, 959, 1983, 4095, 8191, 16383]
theorem fnd11_tab : rtab .any (opsOf Try.f5 11) = fnd11_T := by kernel_rfl
theorem fnd11_bits : waitsOk fnd11_T.2 fnd11_B = true := by kernel_rfl
def fnd15_T : Bool × List (List Nat × List Nat) := (true, [([], []), ([0], [0]), ([1], [1]), ([2], [2]), ([2], [2]), ([4, 2], [2, 4]), ([3, 5, 2], [2, 3, 5]), ([6, 2], [2, 6]), ([2], [2]), ([7, 8, 2, 2], [2, 7, 8]), ([2, 9], [2, 9]), ([10, 9, 0, 1, 2, 3, 4, 5, 6, 7, 8, 9, 10], [10])])
def fnd15_B : List Nat := [0, 1, 3, 7, 7, 23, 63, 127, 7, 511, 1023, 2047]
theorem fnd15_tab : rtab .any (opsOf Try.f5 15) = fnd15_T := by kernel_rfl
theorem fnd15_bits : waitsOk fnd15_T.2 fnd15_B = true := by kernel_rfl
def fnd16_T : Bool × List (List Nat × List Nat) := (true, [([], []), ([], []), ([1], [1]), ([0, 2], [0, 2]), ([3], [3]), ([4], [4]), ([4], [4]), ([5, 6, 4], [4, 5, 6]), ([7, 4], [4, 7]), ([4], [4]), ([8, 9, 4, 4], [4, 8, 9]), ([10, 4], [4, 10]), ([4, 11], [4, 11]), ([12, 10, 0, 1, 2, 3, 4, 5, 6, 7, 8, 9, 10, 11, 12], [12])])
def fnd16_B : List Nat := [0, 0, 2, 7, 15, 31, 31, 127, 255, 31, 1023, 2047, 4095, 8191]
theorem fnd16_tab : rtab .any (opsOf Try.f5 16) = fnd16_T := by kernel_rfl
theorem fnd16_bits : waitsOk fnd16_T.2 fnd16_B = true := by kernel_rfl
def fnd17_T : Bool × List (List Nat × List Nat) := (true, [([], []), ([0], [0]), ([1], [1]), ([1, 2], [1, 2]), ([3, 1], [3]), ([4], [4]), ([4, 5], [4, 5]), ([6, 4], [6]), ([7], [7]), ([8, 7, 7], [7, 8]), ([7], [7]), ([10, 7], [7, 10]), ([11, 7], [7, 11]), ([9, 12, 7], [7, 9, 12]), ([7, 13], [7, 13]), ([14, 9, 0, 1, 2, 3, 4, 5, 6, 7, 8, 9, 10, 11, 12, 13, 14], [14])])
def fnd17_B : List Nat := [0, 1, 3, 7, 15, 31, 63, 127, 255, 511, 255, 1279, 3327, 8191, 16383, 32767]
theorem fnd17_tab : rtab .any (opsOf Try.f5 17) = fnd17_T := by kernel_rfl
theorem fnd17_bits : waitsOk fnd17_T.2 fnd17_B = true := by kernel_rfl
theorem C_few {α : Type} {k : Kd α} {w : World} {A : Option Addr} {l : List α} (h : k.C w A l.length l) : k.C w A (l.take 20).length (l.take 20) := by
  by_cases q : 20 ≤ l.length
  · exact Kd.C_take h q
  · rw [List.take_of_length_le (by omega)]; exact h
theorem min20 {α : Type} (l : List α) : min l.length 20 = (l.take 20).length := by rw [List.length_take, Nat.min_comm]
/-- What is told of a key in memory, wherever the world goes. -/
def nodeF (lv : Int) (A1 : Option Addr) (n c1 : Nat) (A2 : Option Addr) (m c2 : Nat) : Array Value := #[.int .i64 lv, .slice A1 n c1, .slice A2 m c2]
def keyF (a b c : Int) : Array Value := #[.int .i64 a, .int .i64 b, .int .i64 c]
set_option maxHeartbeats 8000000 in
set_option maxRecDepth 100000 in
theorem NodeFinds_law (z0f0_n : Int) (z0f1_A : Option Addr) (z0f1_c : Nat) (z0f1_l : (List S52)) (z0f2_A : Option Addr) (z0f2_c : Nat) (z0f2_l : (List S57)) (z1f0_n : Int) (z1f1_n : Int) (z1f2_n : Int) (w : World) (h0 : Aside0 ((Lit.int .i64 z0f0_n).wf = true ∧ z0f1_l.length ≤ z0f1_c ∧ Kd.C k52 w z0f1_A z0f1_l.length z0f1_l ∧ (z0f1_l.length ≤ maxLen ∧ ∀ y0_ ∈ z0f1_l, (((Lit.int .i64 y0_.f0.f0).wf = true ∧ (Lit.int .i64 y0_.f0.f1).wf = true ∧ (Lit.int .i64 y0_.f0.f2).wf = true) ∧ (y0_.f1.length ≤ maxLen ∧ ∀ y1_ ∈ y0_.f1, (Lit.int .u8 y1_).wf = true))) ∧ z0f2_l.length ≤ z0f2_c ∧ Kd.C k57 w z0f2_A z0f2_l.length z0f2_l ∧ (z0f2_l.length ≤ maxLen ∧ ∀ y0_ ∈ z0f2_l, (((Lit.int .i64 y0_.f0.f0).wf = true ∧ (Lit.int .i64 y0_.f0.f1).wf = true ∧ (Lit.int .i64 y0_.f0.f2).wf = true) ∧ (Lit.int .i64 y0_.f1).wf = true)))) (h1 : Aside0 ((Lit.int .i64 z1f0_n).wf = true ∧ (Lit.int .i64 z1f1_n).wf = true ∧ (Lit.int .i64 z1f2_n).wf = true)) :
    Calls Try.prog 5 #[.agg #[.int .i64 z0f0_n, .slice z0f1_A z0f1_l.length z0f1_c, .slice z0f2_A z0f2_l.length z0f2_c], .agg #[.int .i64 z1f0_n, .int .i64 z1f1_n, .int .i64 z1f2_n]] w fun e w' => e = .returned (.bool true) ∧ Below w.heap.size w w' := by
  obtain ⟨_, hc1, hr1, _, hc2, hr2, _⟩ := h0.out
  clear h0 h1
  have HR1 := Aside0.mk hr1
  have HR2 := Aside0.mk hr2
  have HC1 := Aside0.mk (Nat.le_trans (List.length_take_le 20 z0f1_l) (Nat.le_refl 20))
  have HC2 := Aside0.mk (Nat.le_trans (List.length_take_le 20 z0f2_l) (Nat.le_refl 20))
  have HD1 := Aside0.mk (show (z0f1_l.take 20).length ≤ z0f1_c from Nat.le_trans (List.length_take_le' 20 z0f1_l) hc1)
  have HD2 := Aside0.mk (show (z0f2_l.take 20).length ≤ z0f2_c from Nat.le_trans (List.length_take_le' 20 z0f2_l) hc2)
  have FW := few.st z0f0_n z0f1_A z0f1_l.length z0f1_c z0f2_A z0f2_l.length z0f2_c
  rw [min20, min20] at FW
  have HS0 := Aside0.mk (((St.start w).alloc_ (nodeF z0f0_n z0f1_A z0f1_l.length z0f1_c z0f2_A z0f2_l.length z0f2_c) 25).alloc_ (keyF z1f0_n z1f1_n z1f2_n) 35)
  have HFW := Aside0.mk FW
  have HCC := Aside0.mk (And.intro hc1 hc2)
  clear FW hr1 hr2 hc1 hc2
  rw [show (w.alloc (.cells (nodeF z0f0_n z0f1_A z0f1_l.length z0f1_c z0f2_A z0f2_l.length z0f2_c) 25)).heap.size = w.heap.size + 1 from by simp] at HS0
  go_enter Try.func5, Try.ntmps5
  go_wp2_with fail
  refine (cambiumlaw06_shown.calls true _ rfl).mono ?_
  rintro e w1 ⟨rfl, hb⟩
  have HS1 := Aside0.mk (HS0.out.below_ hb)
  clear hb HS0
  have n0 : w1.cell? ⟨w.heap.size, 0, none⟩ = some (.int .i64 z0f0_n) := blk_cell HS1.out.swap.blk_is 0
  have n1 : w1.cell? ⟨w.heap.size, 1, none⟩ = some (.slice z0f1_A z0f1_l.length z0f1_c) := blk_cell HS1.out.swap.blk_is 1
  have n2 : w1.cell? ⟨w.heap.size, 2, none⟩ = some (.slice z0f2_A z0f2_l.length z0f2_c) := blk_cell HS1.out.swap.blk_is 2
  go_wp2_with fail
  refine (HFW.out w1 HCC.out.1 HCC.out.2).mono ?_
  rintro e w2 ⟨rfl, hb⟩
  have HS2 := Aside0.mk (St.swap (HS1.out.below_ hb))
  clear hb HS1 n0 n1 n2 HFW HCC
  obtain ⟨l, hl⟩ : ∃ l, z0f1_l.take 20 = l := ⟨_, rfl⟩
  obtain ⟨m, hm⟩ : ∃ m, z0f2_l.take 20 = m := ⟨_, rfl⟩
  have HRL := Aside0.mk (show Kd.C k52 w z0f1_A l.length l from hl ▸ C_few HR1.out)
  have HRM := Aside0.mk (show Kd.C k57 w z0f2_A m.length m from hm ▸ C_few HR2.out)
  rw [hl] at HC1 HD1 ⊢
  rw [hm] at HC2 HD2 ⊢
  clear HR1 HR2 hl hm
  have HS3 := Aside0.mk (show St w _ [blk w.heap.size (nodeF z0f0_n z0f1_A l.length z0f1_c z0f2_A m.length z0f2_c) 25, blk (w.heap.size + 1) (keyF z1f0_n z1f1_n z1f2_n) 35] from ((HS2.out.blk_set 0 (.int .i64 z0f0_n)).blk_set 1 (.slice z0f1_A l.length z0f1_c)).blk_set 2 (.slice z0f2_A m.length z0f2_c))
  have n0 : w2.cell? ⟨w.heap.size, 0, none⟩ = some (.int .i64 z0f0_n) := blk_cell HS2.out.blk_is 0
  have n1 : w2.cell? ⟨w.heap.size, 1, none⟩ = some (.slice z0f1_A z0f1_l.length z0f1_c) := blk_cell HS2.out.blk_is 1
  have n2 : w2.cell? ⟨w.heap.size, 2, none⟩ = some (.slice z0f2_A z0f2_l.length z0f2_c) := blk_cell HS2.out.blk_is 2
  have f0 := blk_frozen HS2.out.blk_is 0
  have f1 := blk_frozen HS2.out.blk_is 1
  have f2 := blk_frozen HS2.out.blk_is 2
  clear HS2
  go_wp2_with fail
  generalize (((w2.setCell ⟨w.heap.size, 0, none⟩ (.int .i64 z0f0_n)).setCell ⟨w.heap.size, 1, none⟩ (.slice z0f1_A l.length z0f1_c)).setCell ⟨w.heap.size, 2, none⟩ (.slice z0f2_A m.length z0f2_c)) = w3 at HS3 ⊢
  clear n0 n1 n2 f0 f1 f2
  refine (node_May.calls 200 z0f0_n z0f1_A z0f1_c l z0f2_A z0f2_c m (mayR z0f0_n l m) w3 (Kd.C_below HRL.out HS3.out.below) HD1.out (Kd.C_below HRM.out HS3.out.below) HD2.out (May_is 200 _ _ _ (Nat.le_trans HC1.out (by decide)) (Nat.le_trans HC2.out (by decide)) (by have := HC1.out; have := HC2.out; omega))).mono ?_
  rintro e w4 ⟨rfl, hb⟩
  have HS4 := Aside0.mk (HS3.out.below_ hb)
  clear hb HS3
  obtain ⟨my, hmy⟩ : ∃ my, mayR z0f0_n l m = my := ⟨_, rfl⟩
  have HMY := Aside0.mk hmy
  rw [hmy]
  clear hmy
  have n0 : w4.cell? ⟨w.heap.size, 0, none⟩ = some (.int .i64 z0f0_n) := blk_cell HS4.out.blk_is 0
  have n1 : w4.cell? ⟨w.heap.size, 1, none⟩ = some (.slice z0f1_A l.length z0f1_c) := blk_cell HS4.out.blk_is 1
  have n2 : w4.cell? ⟨w.heap.size, 2, none⟩ = some (.slice z0f2_A m.length z0f2_c) := blk_cell HS4.out.blk_is 2
  have e0 : w4.cell? ⟨w.heap.size + 1, 0, none⟩ = some (.int .i64 z1f0_n) := blk_cell HS4.out.swap.blk_is 0
  have e1 : w4.cell? ⟨w.heap.size + 1, 1, none⟩ = some (.int .i64 z1f1_n) := blk_cell HS4.out.swap.blk_is 1
  have e2 : w4.cell? ⟨w.heap.size + 1, 2, none⟩ = some (.int .i64 z1f2_n) := blk_cell HS4.out.swap.blk_is 2
  cases my with
  | false =>
    go_wp2
    go_ret
    exact ⟨rfl, HS4.out.below⟩
  | true =>
    have hsk := seek_is z0f0_n l m ⟨z1f0_n, z1f1_n, z1f2_n⟩ (Nat.le_trans HC1.out (by decide)) (Nat.le_trans HC2.out (by decide)) HMY.out
    have hfl := fun (h : z0f0_n = 0) => finds_leaf l m ⟨z1f0_n, z1f1_n, z1f2_n⟩ (h ▸ HMY.out)
    have hfi := finds_inner z0f0_n l m ⟨z1f0_n, z1f1_n, z1f2_n⟩ HMY.out
    have hks := Keys_is 100 z0f0_n l m (Nat.le_trans HC1.out (by decide)) (Nat.le_trans HC2.out (by decide)) (by have := HC1.out; have := HC2.out; omega)
    have hie : z0f0_n = 0 → seekI 0 l m ⟨z1f0_n, z1f1_n, z1f2_n⟩ = seekI z0f0_n l m ⟨z1f0_n, z1f1_n, z1f2_n⟩ := fun h => by rw [h]
    obtain ⟨K, hK⟩ : ∃ K, keysR l m = K := ⟨_, rfl⟩
    obtain ⟨i, hi⟩ : ∃ i, seekI z0f0_n l m ⟨z1f0_n, z1f1_n, z1f2_n⟩ = i := ⟨_, rfl⟩
    rw [hK, hi] at hsk hfi
    rw [hK] at hks
    have hfl2 := fun (h : z0f0_n = 0) => by
      have := hfl h
      rw [hie h, hK, hi] at this
      exact this
    obtain ⟨x, hx⟩ : ∃ x, K.getD i z35 = x := ⟨_, rfl⟩
    obtain ⟨b, hbb⟩ : ∃ b, eqK x ⟨z1f0_n, z1f1_n, z1f2_n⟩ = b := ⟨_, rfl⟩
    rw [hx, hbb] at hsk
    have HSK := Aside0.mk hsk
    have HFI := Aside0.mk hfi
    have HFL := Aside0.mk hfl2
    have HKS := Aside0.mk hks
    have HX := Aside0.mk hx
    have HBB := Aside0.mk hbb
    clear hsk hfi hfl hfl2 hks hie hK hi hx hbb
    go_wp2_with fail
    refine (node_Seek.calls z0f0_n z0f1_A z0f1_c l z0f2_A z0f2_c m z1f0_n z1f1_n z1f2_n (i : Int) (decide (i < K.length) && b) w4 (Kd.C_below HRL.out HS4.out.below) HD1.out (Kd.C_below HRM.out HS4.out.below) HD2.out HSK.out).mono ?_
    rintro e w5 ⟨rfl, hb⟩
    have HS5 := Aside0.mk (HS4.out.below_ hb)
    clear hb HS4 n0 n1 n2 e0 e1 e2
    have n0 : w5.cell? ⟨w.heap.size, 0, none⟩ = some (.int .i64 z0f0_n) := blk_cell HS5.out.blk_is 0
    have n1 : w5.cell? ⟨w.heap.size, 1, none⟩ = some (.slice z0f1_A l.length z0f1_c) := blk_cell HS5.out.blk_is 1
    have n2 : w5.cell? ⟨w.heap.size, 2, none⟩ = some (.slice z0f2_A m.length z0f2_c) := blk_cell HS5.out.blk_is 2
    go_wp2_with fail
    refine (cambiumref06_Keys.calls 100 z0f0_n z0f1_A z0f1_c l z0f2_A z0f2_c m K w5 (Kd.C_below HRL.out HS5.out.below) HD1.out (Kd.C_below HRM.out HS5.out.below) HD2.out HKS.out).mono ?_
    rintro e w6 ⟨v, rfl, hr, hb⟩
    have HS6 := Aside0.mk (HS5.out.row_new hb hr)
    clear hb hr HS5 n0 n1 n2
    obtain ⟨A, c, rfl⟩ := HS6.out.row_slice
    obtain ⟨n, hn⟩ : ∃ n, K.length = n := ⟨_, rfl⟩
    have HN := Aside0.mk hn
    rw [hn] at HFI HFL HS6 ⊢
    clear hn
    have n0 : w6.cell? ⟨w.heap.size, 0, none⟩ = some (.int .i64 z0f0_n) := blk_cell (St.front 1 HS6.out).blk_is 0
    have e0 : w6.cell? ⟨w.heap.size + 1, 0, none⟩ = some (.int .i64 z1f0_n) := blk_cell (St.front 2 HS6.out).blk_is 0
    have e1 : w6.cell? ⟨w.heap.size + 1, 1, none⟩ = some (.int .i64 z1f1_n) := blk_cell (St.front 2 HS6.out).blk_is 1
    have e2 : w6.cell? ⟨w.heap.size + 1, 2, none⟩ = some (.int .i64 z1f2_n) := blk_cell (St.front 2 HS6.out).blk_is 2
    by_cases h0 : z0f0_n = 0
    · obtain ⟨hn1, hn6, hin, hA, hB, hm0, hKl⟩ := HFL.out h0
      obtain ⟨v, hv⟩ : ∃ v, K.getD 0 z35 = v := ⟨_, rfl⟩
      have HLE := Aside0.mk (show node_Least.f z0f0_n l m = some (v.f0, v.f1, v.f2) from by
        have hll : l.length = n := by have := HN.out; rw [hKl, List.length_map] at this; exact this
        unfold node_Least.f
        rw [if_pos (show (l.length : Int) > 0 by omega), if_pos (show (0 : Int) < (l.length : Int) by omega)]
        have e : (rd_T52 l 0).f0 = v := by rw [← hv, hKl]; exact (getD_map (fun x : S52 => x.f0) l 0 z52).symm
        rw [e])
      have HV := Aside0.mk hv
      have c1 : decide (z0f0_n > 0) = false := decide_eq_false (by omega)
      have d1 : decide ((i : Int) < 0) = false := decide_eq_false (by omega)
      have d2 : decide ((i : Int) > (n : Int)) = false := decide_eq_false (by omega)
      have d2' : decide (n < i) = false := decide_eq_false (by omega)
      have HIN := Aside0.mk hin
      have HNN := Aside0.mk (And.intro hn1 hn6)
      have HLA := Aside0.mk hA
      have HLB := Aside0.mk hB
      obtain ⟨ad, hAc, _⟩ := at_T35 HS6.out.row_C.2.2 (0 : Int) (by decide) (by omega)
      subst hAc
      obtain ⟨is, his⟩ : ∃ is, (decide (i < n) && b) = is := ⟨_, rfl⟩
      rw [his]
      have heq : (x.f0 == z1f0_n && (x.f1 == z1f1_n && x.f2 == z1f2_n)) = b := HBB.out
      have HIS := Aside0.mk his
      have HEQ := Aside0.mk heq
      clear hn1 hn6 hin hA hB hm0 hKl hv his heq h0 e0 e1 e2
      go_upto_region 13 with fail
      go_cut [104] (fun u wx => u = .bool false ∧ St w wx [row k35 35 (.slice (some ad) n c) K, blk w.heap.size (nodeF z0f0_n z0f1_A l.length z0f1_c z0f2_A m.length z0f2_c) 25, blk (w.heap.size + 1) (keyF z1f0_n z1f1_n z1f2_n) 35])
      case first =>
        by_cases hz : i < n
        · have z1 : decide ((i : Int) < (n : Int)) = true := decide_eq_true (by omega)
          have z2 : decide (i < n) = true := decide_eq_true hz
          have z5 : (i : Int) < (n : Int) := Int.ofNat_lt.2 hz
          have z6 : (0 : Int) ≤ (i : Int) := Int.natCast_nonneg i
          have HZ := Aside0.mk hz
          have heq : (x.f0 == z1f0_n && (x.f1 == z1f1_n && x.f2 == z1f2_n)) = is := by rw [HEQ.out, ← HIS.out, z2, Bool.true_and]
          clear hz
          have HPC := Aside0.mk (fun W' (hs : St w W' [row k35 35 (.slice (some ad) n c) K, blk w.heap.size (nodeF z0f0_n z0f1_A l.length z0f1_c z0f2_A m.length z0f2_c) 25, blk (w.heap.size + 1) (keyF z1f0_n z1f1_n z1f2_n) 35]) => show W'.cell? ⟨w.heap.size + 1, 0, none⟩ = some (.int .i64 z1f0_n) ∧ W'.cell? ⟨w.heap.size + 1, 1, none⟩ = some (.int .i64 z1f1_n) ∧ W'.cell? ⟨w.heap.size + 1, 2, none⟩ = some (.int .i64 z1f2_n) ∧ W'.cell? (ad.add (i * 3)) = some (.int .i64 x.f0) ∧ W'.cell? ⟨(ad.add (i * 3)).block, (ad.add (i * 3)).off + 1, none⟩ = some (.int .i64 x.f1) ∧ W'.cell? ⟨(ad.add (i * 3)).block, (ad.add (i * 3)).off + 2, none⟩ = some (.int .i64 x.f2) from by
            obtain ⟨ad', h, p0, p1, p2⟩ := at_T35 hs.row_C.2.2 ((i : Nat) : Int) (Int.natCast_nonneg i) (Int.ofNat_lt.2 HZ.out)
            cases h
            rw [Int.toNat_natCast, show rd_T35 K ((i : Nat) : Int) = x from (rd35 K (i)).trans HX.out] at p0 p1 p2
            exact ⟨blk_cell (St.front 2 hs).blk_is 0, blk_cell (St.front 2 hs).blk_is 1, blk_cell (St.front 2 hs).blk_is 2, p0, p1, p2⟩)
          obtain ⟨e0, e1, e2, q0, q1, q2⟩ := HPC.out _ HS6.out
          go_quiet (fail)
          go_wp2_with fail
          go_meet
          exact ⟨rfl, HS6.out.drewN _⟩
        · have z1 : decide ((i : Int) < (n : Int)) = false := decide_eq_false (by omega)
          have z2 : decide (i < n) = false := decide_eq_false hz
          obtain rfl : is = false := by rw [← HIS.out, z2, Bool.false_and]
          clear hz
          go_quiet (fail)
          go_wp2_with fail
          go_meet
          exact ⟨rfl, HS6.out.drewN _⟩
      case rest =>
      rename_i wq
      obtain ⟨rfl, hs9⟩ := hcut
      have HS9 := Aside0.mk hs9
      clear hs9
      clear HS6 n0
      go_upto_region 15 with fail
      go_cut [11] (fun u wx => u = .bool true ∧ St w wx [row k35 35 (.slice (some ad) n c) K, blk w.heap.size (nodeF z0f0_n z0f1_A l.length z0f1_c z0f2_A m.length z0f2_c) 25, blk (w.heap.size + 1) (keyF z1f0_n z1f1_n z1f2_n) 35])
      case first =>
        by_cases hz : i = 0
        · have z1 : decide ((i : Int) = (0 : Int)) = true := decide_eq_true (by omega)
          have z2 : decide (i = 0) = true := decide_eq_true hz
          have z3 : ((i : Int) == (0 : Int)) = true := by rw [hz]; first | rfl | exact beq_self_eq_true _
          have z4 : (i == 0) = true := by rw [hz]; first | rfl | exact beq_self_eq_true _
          clear hz
          go_quiet (fail)
          go_wp2_with fail
          go_meet
          exact ⟨rfl, HS9.out.drewN _⟩
        · have z1 : decide ((i : Int) = (0 : Int)) = false := decide_eq_false (by omega)
          have z2 : decide (i = 0) = false := decide_eq_false hz
          have z3 : ((i : Int) == (0 : Int)) = false := beq_false_of_ne (by omega)
          have z4 : (i == 0) = false := beq_false_of_ne hz
          obtain ⟨j, hj⟩ : ∃ j, i = j + 1 := ⟨i - 1, by omega⟩
          have wi : wrap64 ((i : Int) - 1) = (j : Int) := by have := HNN.out; have := HIN.out; unfold wrap64; omega
          have HJ := Aside0.mk (show j < n by have := HIN.out; omega)
          have HAJ := Aside0.mk (HLA.out j hj)
          obtain ⟨y, hy⟩ : ∃ y, K.getD j z35 = y := ⟨_, rfl⟩
          rw [hy] at HAJ
          have HY := Aside0.mk hy
          have HL := Aside0.mk (show cambiumref05_Less.f y.f0 y.f1 y.f2 z1f0_n z1f1_n z1f2_n = some true from (refLess_k y (⟨z1f0_n, z1f1_n, z1f2_n⟩ : S35)).trans (congrArg some HAJ.out))
          have d6 : (j : Int) < (n : Int) := Int.ofNat_lt.2 HJ.out
          have d7 : (0 : Int) ≤ (j : Int) := Int.natCast_nonneg j
          clear hz hj hy HAJ
          have HPC := Aside0.mk (fun W' (hs : St w W' [row k35 35 (.slice (some ad) n c) K, blk w.heap.size (nodeF z0f0_n z0f1_A l.length z0f1_c z0f2_A m.length z0f2_c) 25, blk (w.heap.size + 1) (keyF z1f0_n z1f1_n z1f2_n) 35]) => show W'.cell? ⟨w.heap.size + 1, 0, none⟩ = some (.int .i64 z1f0_n) ∧ W'.cell? ⟨w.heap.size + 1, 1, none⟩ = some (.int .i64 z1f1_n) ∧ W'.cell? ⟨w.heap.size + 1, 2, none⟩ = some (.int .i64 z1f2_n) ∧ W'.cell? (ad.add (j * 3)) = some (.int .i64 y.f0) ∧ W'.cell? ⟨(ad.add (j * 3)).block, (ad.add (j * 3)).off + 1, none⟩ = some (.int .i64 y.f1) ∧ W'.cell? ⟨(ad.add (j * 3)).block, (ad.add (j * 3)).off + 2, none⟩ = some (.int .i64 y.f2) from by
            obtain ⟨ad', h, p0, p1, p2⟩ := at_T35 hs.row_C.2.2 ((j : Nat) : Int) (Int.natCast_nonneg j) (Int.ofNat_lt.2 HJ.out)
            cases h
            rw [Int.toNat_natCast, show rd_T35 K ((j : Nat) : Int) = y from (rd35 K (j)).trans HY.out] at p0 p1 p2
            exact ⟨blk_cell (St.front 2 hs).blk_is 0, blk_cell (St.front 2 hs).blk_is 1, blk_cell (St.front 2 hs).blk_is 2, p0, p1, p2⟩)
          refine stepStart (fun w' => w'.cell? ⟨w.heap.size + 1, 0, none⟩ = some (.int .i64 z1f0_n) ∧ w'.cell? ⟨w.heap.size + 1, 1, none⟩ = some (.int .i64 z1f1_n) ∧ w'.cell? ⟨w.heap.size + 1, 2, none⟩ = some (.int .i64 z1f2_n) ∧ w'.cell? (ad.add (j * 3)) = some (.int .i64 y.f0) ∧ w'.cell? ⟨(ad.add (j * 3)).block, (ad.add (j * 3)).off + 1, none⟩ = some (.int .i64 y.f1) ∧ w'.cell? ⟨(ad.add (j * 3)).block, (ad.add (j * 3)).off + 2, none⟩ = some (.int .i64 y.f2)) 12 [0, 1, 2, 3, 4, 5, 6, 7, 8, 9, 10, 11] fnd15_tab fnd15_bits (by kernel_rfl) rfl (HPC.out _ (HS9.out.below_ (Below.refl _ _).drew)) (fun HT_ HW_ hHeld => ?_)
          iterate 7 (refine stepPu (v := ?_) rfl rfl (any_of HT_.out (by kernel_rfl)) (fun _ _ _ h => h) (Or.inl ⟨by rfl, ?_⟩) (a' := ?_) ?_ ?_; rotate_left; (· intro w'; go_simp; with_reducible rfl); rotate_left; (· (simp only [Act.put, List.setIfInBounds_toArray, List.set_cons_zero, List.set_cons_succ, i64_w, i32_w]; rfl)))
          iterate 2 (refine stepLd (v := ?_) rfl rfl (take_ofW HT_.out HW_.out (by kernel_rfl)) (fun _ _ _ h => h) (Or.inl ⟨by rfl, ?_⟩) hHeld (a' := ?_) ?_ ?_; rotate_left; (· rintro w' ⟨s0, s1, s2, s3, s4, s5⟩; go_simp; with_reducible rfl); rotate_left; (· (simp only [Act.put, List.setIfInBounds_toArray, List.set_cons_zero, List.set_cons_succ, i64_w, i32_w]; rfl)))
          refine stepOne rfl rfl (one_of HT_.out (by kernel_rfl)) (by decide) (fun K hK => ?_)
          refine goes_ Try.func17 (by kernel_rfl) rfl #[.agg #[.int .i64 y.f0, .int .i64 y.f1, .int .i64 y.f2], .agg #[.int .i64 z1f0_n, .int .i64 z1f1_n, .int .i64 z1f2_n]] (by rfl) rfl rfl (by first | rfl | (simp only [List.map_toArray, List.map_cons, List.map_nil]; rfl)) ?_
          with_reducible refine (cambiumref05_Less.calls _ _ _ _ _ _ _ _ HL.out).mono ?_
          rintro e w8 ⟨rfl, hb⟩
          refine ⟨_, rfl, ?_⟩
          have HS8 := Aside0.mk ((HS9.out.below_ (Below.refl _ _).drew).below_ hb)
          clear hb
          refine hK.out _ _ (HPC.out _ HS8.out) (fun hHeld => ?_)
          clear hK K
          refine norm_ (a' := ?_) ?_ ?_
          rotate_left
          · show Act.put _ (some 114) _ = _
            simp only [Act.put, List.setIfInBounds_toArray, List.set_cons_zero, List.set_cons_succ, i64_w, i32_w]
            rfl
          iterate 2 (refine stepPu (v := ?_) rfl rfl (any_of HT_.out (by kernel_rfl)) (fun _ _ _ h => h) (Or.inl ⟨by rfl, ?_⟩) (a' := ?_) ?_ ?_; rotate_left; (· intro w'; go_simp; with_reducible rfl); rotate_left; (· (simp only [Act.put, List.setIfInBounds_toArray, List.set_cons_zero, List.set_cons_succ, i64_w, i32_w]; rfl)))
          refine done_ (done_of HT_.out (by kernel_rfl)) ?_
          go_wp2_with fail
          go_meet
          exact ⟨rfl, HS8.out⟩
      case rest =>
      rename_i wq
      obtain ⟨rfl, hs9⟩ := hcut
      have HS10 := Aside0.mk hs9
      clear hs9
      clear HS9
      go_upto_region 16 with fail
      go_cut [12] (fun u wx => u = .bool true ∧ St w wx [row k35 35 (.slice (some ad) n c) K, blk w.heap.size (nodeF z0f0_n z0f1_A l.length z0f1_c z0f2_A m.length z0f2_c) 25, blk (w.heap.size + 1) (keyF z1f0_n z1f1_n z1f2_n) 35])
      case first =>
        by_cases hz : i = n
        · have z1 : decide ((i : Int) = (n : Int)) = true := decide_eq_true (by omega)
          have z2 : decide (i = n) = true := decide_eq_true hz
          have z3 : ((i : Int) == (n : Int)) = true := by rw [hz]; first | rfl | exact beq_self_eq_true _
          have z4 : (i == n) = true := by rw [hz]; first | rfl | exact beq_self_eq_true _
          clear hz
          go_quiet (fail)
          go_wp2_with fail
          go_meet
          exact ⟨rfl, HS10.out.drewN _⟩
        · have z1 : decide ((i : Int) = (n : Int)) = false := decide_eq_false (by omega)
          have z2 : decide (i = n) = false := decide_eq_false hz
          have z3 : ((i : Int) == (n : Int)) = false := beq_false_of_ne (by omega)
          have z4 : (i == n) = false := beq_false_of_ne hz
          have HJ := Aside0.mk (show i < n by have := HIN.out; omega)
          have HAJ := Aside0.mk (HLB.out HJ.out)
          rw [HX.out] at HAJ
          have HL := Aside0.mk (show cambiumref05_Less.f x.f0 x.f1 x.f2 z1f0_n z1f1_n z1f2_n = some false from (refLess_k x (⟨z1f0_n, z1f1_n, z1f2_n⟩ : S35)).trans (congrArg some HAJ.out))
          have d6 : (i : Int) < (n : Int) := Int.ofNat_lt.2 HJ.out
          have d7 : (0 : Int) ≤ (i : Int) := Int.natCast_nonneg i
          clear hz HAJ
          have HPC := Aside0.mk (fun W' (hs : St w W' [row k35 35 (.slice (some ad) n c) K, blk w.heap.size (nodeF z0f0_n z0f1_A l.length z0f1_c z0f2_A m.length z0f2_c) 25, blk (w.heap.size + 1) (keyF z1f0_n z1f1_n z1f2_n) 35]) => show W'.cell? ⟨w.heap.size + 1, 0, none⟩ = some (.int .i64 z1f0_n) ∧ W'.cell? ⟨w.heap.size + 1, 1, none⟩ = some (.int .i64 z1f1_n) ∧ W'.cell? ⟨w.heap.size + 1, 2, none⟩ = some (.int .i64 z1f2_n) ∧ W'.cell? (ad.add (i * 3)) = some (.int .i64 x.f0) ∧ W'.cell? ⟨(ad.add (i * 3)).block, (ad.add (i * 3)).off + 1, none⟩ = some (.int .i64 x.f1) ∧ W'.cell? ⟨(ad.add (i * 3)).block, (ad.add (i * 3)).off + 2, none⟩ = some (.int .i64 x.f2) from by
            obtain ⟨ad', h, p0, p1, p2⟩ := at_T35 hs.row_C.2.2 ((i : Nat) : Int) (Int.natCast_nonneg i) (Int.ofNat_lt.2 HJ.out)
            cases h
            rw [Int.toNat_natCast, show rd_T35 K ((i : Nat) : Int) = x from (rd35 K (i)).trans HX.out] at p0 p1 p2
            exact ⟨blk_cell (St.front 2 hs).blk_is 0, blk_cell (St.front 2 hs).blk_is 1, blk_cell (St.front 2 hs).blk_is 2, p0, p1, p2⟩)
          refine stepStart (fun w' => w'.cell? ⟨w.heap.size + 1, 0, none⟩ = some (.int .i64 z1f0_n) ∧ w'.cell? ⟨w.heap.size + 1, 1, none⟩ = some (.int .i64 z1f1_n) ∧ w'.cell? ⟨w.heap.size + 1, 2, none⟩ = some (.int .i64 z1f2_n) ∧ w'.cell? (ad.add (i * 3)) = some (.int .i64 x.f0) ∧ w'.cell? ⟨(ad.add (i * 3)).block, (ad.add (i * 3)).off + 1, none⟩ = some (.int .i64 x.f1) ∧ w'.cell? ⟨(ad.add (i * 3)).block, (ad.add (i * 3)).off + 2, none⟩ = some (.int .i64 x.f2)) 14 [0, 1, 2, 3, 4, 5, 6, 7, 8, 9, 10, 11, 12, 13] fnd16_tab fnd16_bits (by kernel_rfl) rfl (HPC.out _ (HS10.out.below_ (Below.refl _ _).drew)) (fun HT_ HW_ hHeld => ?_)
          iterate 8 (refine stepPu (v := ?_) rfl rfl (any_of HT_.out (by kernel_rfl)) (fun _ _ _ h => h) (Or.inl ⟨by rfl, ?_⟩) (a' := ?_) ?_ ?_; rotate_left; (· intro w'; go_simp; with_reducible rfl); rotate_left; (· (simp only [Act.put, List.setIfInBounds_toArray, List.set_cons_zero, List.set_cons_succ, i64_w, i32_w]; rfl)))
          iterate 2 (refine stepLd (v := ?_) rfl rfl (take_ofW HT_.out HW_.out (by kernel_rfl)) (fun _ _ _ h => h) (Or.inl ⟨by rfl, ?_⟩) hHeld (a' := ?_) ?_ ?_; rotate_left; (· rintro w' ⟨s0, s1, s2, s3, s4, s5⟩; go_simp; with_reducible rfl); rotate_left; (· (simp only [Act.put, List.setIfInBounds_toArray, List.set_cons_zero, List.set_cons_succ, i64_w, i32_w]; rfl)))
          refine stepOne rfl rfl (one_of HT_.out (by kernel_rfl)) (by decide) (fun K hK => ?_)
          refine goes_ Try.func17 (by kernel_rfl) rfl #[.agg #[.int .i64 x.f0, .int .i64 x.f1, .int .i64 x.f2], .agg #[.int .i64 z1f0_n, .int .i64 z1f1_n, .int .i64 z1f2_n]] (by rfl) rfl rfl (by first | rfl | (simp only [List.map_toArray, List.map_cons, List.map_nil]; rfl)) ?_
          with_reducible refine (cambiumref05_Less.calls _ _ _ _ _ _ _ _ HL.out).mono ?_
          rintro e w8 ⟨rfl, hb⟩
          refine ⟨_, rfl, ?_⟩
          have HS8 := Aside0.mk ((HS10.out.below_ (Below.refl _ _).drew).below_ hb)
          clear hb
          refine hK.out _ _ (HPC.out _ HS8.out) (fun hHeld => ?_)
          clear hK K
          refine norm_ (a' := ?_) ?_ ?_
          rotate_left
          · show Act.put _ (some 126) _ = _
            simp only [Act.put, List.setIfInBounds_toArray, List.set_cons_zero, List.set_cons_succ, i64_w, i32_w]
            rfl
          iterate 3 (refine stepPu (v := ?_) rfl rfl (any_of HT_.out (by kernel_rfl)) (fun _ _ _ h => h) (Or.inl ⟨by rfl, ?_⟩) (a' := ?_) ?_ ?_; rotate_left; (· intro w'; go_simp; with_reducible rfl); rotate_left; (· (simp only [Act.put, List.setIfInBounds_toArray, List.set_cons_zero, List.set_cons_succ, i64_w, i32_w]; rfl)))
          refine done_ (done_of HT_.out (by kernel_rfl)) ?_
          go_wp2_with fail
          go_meet
          exact ⟨rfl, HS8.out⟩
      case rest =>
      rename_i wq
      obtain ⟨rfl, hs9⟩ := hcut
      have HS11 := Aside0.mk hs9
      clear hs9
      clear HS10
      have hn0 : (0 : Int) < (n : Int) := by have := HNN.out; omega
      have HN0 := Aside0.mk hn0
      have hn0n : 0 < n := by have := HNN.out; omega
      have HPC := Aside0.mk (fun W' (hs : St w W' [row k35 35 (.slice (some ad) n c) K, blk w.heap.size (nodeF z0f0_n z0f1_A l.length z0f1_c z0f2_A m.length z0f2_c) 25, blk (w.heap.size + 1) (keyF z1f0_n z1f1_n z1f2_n) 35]) => show W'.cell? ⟨w.heap.size, 0, none⟩ = some (.int .i64 z0f0_n) ∧ W'.cell? ⟨w.heap.size, 1, none⟩ = some (.slice z0f1_A l.length z0f1_c) ∧ W'.cell? ⟨w.heap.size, 2, none⟩ = some (.slice z0f2_A m.length z0f2_c) ∧ W'.cell? (ad) = some (.int .i64 v.f0) ∧ W'.cell? ⟨(ad).block, (ad).off + 1, none⟩ = some (.int .i64 v.f1) ∧ W'.cell? ⟨(ad).block, (ad).off + 2, none⟩ = some (.int .i64 v.f2) from by
        obtain ⟨ad', h, p0, p1, p2⟩ := at_T35 hs.row_C.2.2 (0 : Int) (by decide) HN0.out
        cases h
        rw [show (0 : Int).toNat = 0 from rfl, show rd_T35 K (0 : Int) = v from (rd35 K 0).trans HV.out, show ad.add (0 * 3) = ad from by simp [Addr.add]] at p0 p1 p2
        exact ⟨blk_cell (St.front 1 hs).blk_is 0, blk_cell (St.front 1 hs).blk_is 1, blk_cell (St.front 1 hs).blk_is 2, p0, p1, p2⟩)
      go_upto_region 17 with fail
      refine stepStart (fun w' => w'.cell? ⟨w.heap.size, 0, none⟩ = some (.int .i64 z0f0_n) ∧ w'.cell? ⟨w.heap.size, 1, none⟩ = some (.slice z0f1_A l.length z0f1_c) ∧ w'.cell? ⟨w.heap.size, 2, none⟩ = some (.slice z0f2_A m.length z0f2_c) ∧ w'.cell? (ad) = some (.int .i64 v.f0) ∧ w'.cell? ⟨(ad).block, (ad).off + 1, none⟩ = some (.int .i64 v.f1) ∧ w'.cell? ⟨(ad).block, (ad).off + 2, none⟩ = some (.int .i64 v.f2)) 16 [0, 1, 2, 3, 4, 5, 6, 7, 8, 10, 11, 12, 9, 13, 14, 15] fnd17_tab fnd17_bits (by kernel_rfl) rfl (HPC.out _ (HS11.out.below_ (Below.refl _ _).drew)) (fun HT_ HW_ hHeld => ?_)
      iterate 8 (refine stepPu (v := ?_) rfl rfl (any_of HT_.out (by kernel_rfl)) (fun _ _ _ h => h) (Or.inl ⟨by rfl, ?_⟩) (a' := ?_) ?_ ?_; rotate_left; (· intro w'; go_simp; with_reducible rfl); rotate_left; (· (simp only [Act.put, List.setIfInBounds_toArray, List.set_cons_zero, List.set_cons_succ, i64_w, i32_w]; rfl)))
      (refine stepLd (v := ?_) rfl rfl (take_ofW HT_.out HW_.out (by kernel_rfl)) (fun _ _ _ h => h) (Or.inl ⟨by rfl, ?_⟩) hHeld (a' := ?_) ?_ ?_; rotate_left; (· rintro w' ⟨s0, s1, s2, s3, s4, s5⟩; go_simp; with_reducible rfl); rotate_left; (· (simp only [Act.put, List.setIfInBounds_toArray, List.set_cons_zero, List.set_cons_succ, i64_w, i32_w]; rfl)))
      iterate 2 (refine stepPu (v := ?_) rfl rfl (any_of HT_.out (by kernel_rfl)) (fun _ _ _ h => h) (Or.inl ⟨by rfl, ?_⟩) (a' := ?_) ?_ ?_; rotate_left; (· intro w'; go_simp; with_reducible rfl); rotate_left; (· (simp only [Act.put, List.setIfInBounds_toArray, List.set_cons_zero, List.set_cons_succ, i64_w, i32_w]; rfl)))
      (refine stepLd (v := ?_) rfl rfl (take_ofW HT_.out HW_.out (by kernel_rfl)) (fun _ _ _ h => h) (Or.inl ⟨by rfl, ?_⟩) hHeld (a' := ?_) ?_ ?_; rotate_left; (· rintro w' ⟨s0, s1, s2, s3, s4, s5⟩; go_simp; with_reducible rfl); rotate_left; (· (simp only [Act.put, List.setIfInBounds_toArray, List.set_cons_zero, List.set_cons_succ, i64_w, i32_w]; rfl)))
      refine stepOne rfl rfl (one_of HT_.out (by kernel_rfl)) (by decide) (fun K hK => ?_)
      refine goes_ Try.func18 (by kernel_rfl) rfl #[.agg #[.int .i64 z0f0_n, .slice z0f1_A l.length z0f1_c, .slice z0f2_A m.length z0f2_c]] (by rfl) rfl rfl (by first | rfl | (simp only [List.map_toArray, List.map_cons, List.map_nil]; rfl)) ?_
      with_reducible refine (node_Least.calls z0f0_n z0f1_A z0f1_c l z0f2_A z0f2_c m _ _ _ _ (Kd.C_below HRL.out (HS11.out.below_ (Below.refl _ _).drew).below) HD1.out (Kd.C_below HRM.out (HS11.out.below_ (Below.refl _ _).drew).below) HD2.out HLE.out).mono ?_
      rintro e w8 ⟨rfl, hb⟩
      refine ⟨_, rfl, ?_⟩
      have HS8 := Aside0.mk ((HS11.out.below_ (Below.refl _ _).drew).below_ hb)
      clear hb
      refine hK.out _ _ (HPC.out _ HS8.out) (fun hHeld => ?_)
      clear hK K
      refine norm_ (a' := ?_) ?_ ?_
      rotate_left
      · show Act.put _ (some 138) _ = _
        simp only [Act.put, List.setIfInBounds_toArray, List.set_cons_zero, List.set_cons_succ, i64_w, i32_w]
        rfl
      iterate 3 (refine stepPu (v := ?_) rfl rfl (any_of HT_.out (by kernel_rfl)) (fun _ _ _ h => h) (Or.inl ⟨by rfl, ?_⟩) (a' := ?_) ?_ ?_; rotate_left; (· intro w'; go_simp; with_reducible rfl); rotate_left; (· (simp only [Act.put, List.setIfInBounds_toArray, List.set_cons_zero, List.set_cons_succ, i64_w, i32_w]; rfl)))
      refine done_ (done_of HT_.out (by kernel_rfl)) ?_
      go_wp2_with fail
      go_ret
      exact ⟨rfl, HS8.out.below⟩
    · obtain ⟨hpos, hn2, hn12, hlt, hA, hB⟩ := HFI.out h0
      have c1 : decide (z0f0_n > 0) = true := decide_eq_true hpos
      have d1 : decide ((i : Int) < 0) = false := decide_eq_false (by omega)
      have d2 : decide ((i : Int) ≥ (n : Int)) = false := decide_eq_false (by omega)
      have d2' : decide (n ≤ i) = false := decide_eq_false (by omega)
      have d3 : decide (i < n) = true := decide_eq_true hlt
      have d4 : (i : Int) < (n : Int) := Int.ofNat_lt.2 hlt
      have d5 : (0 : Int) ≤ (i : Int) := Int.natCast_nonneg i
      have HAB := Aside0.mk (And.intro hlt (And.intro hA hB))
      have HNN := Aside0.mk (And.intro hn2 hn12)
      obtain ⟨ad, rfl, q0, q1, q2⟩ := at_T35 HS6.out.row_C.2.2 (i : Int) d5 d4
      rw [Int.toNat_natCast, show rd_T35 K (i : Int) = x from (rd35 K i).trans HX.out] at q0 q1 q2
      have heq : (x.f0 == z1f0_n && (x.f1 == z1f1_n && x.f2 == z1f2_n)) = b := HBB.out
      rw [d3, Bool.true_and]
      clear hA hB hlt hpos hn2 hn12 h0 d3
      go_wp2_with fail
      go_quiet (fail)
      go_wp2_with fail
      clear n0 e0 e1 e2 q0 q1 q2
      have HS7 := Aside0.mk (show St w _ [row k35 35 (.slice (some ad) n c) K, blk w.heap.size (nodeF z0f0_n z0f1_A l.length z0f1_c z0f2_A m.length z0f2_c) 25, blk (w.heap.size + 1) (keyF z1f0_n z1f1_n z1f2_n) 35] from HS6.out.drewN nq)
      clear HS6
      generalize w6.drewN nq = w7 at HS7 ⊢
      have HPC := Aside0.mk (fun W' (hs : St w W' [row k35 35 (.slice (some ad) n c) K, blk w.heap.size (nodeF z0f0_n z0f1_A l.length z0f1_c z0f2_A m.length z0f2_c) 25, blk (w.heap.size + 1) (keyF z1f0_n z1f1_n z1f2_n) 35]) => show W'.cell? ⟨w.heap.size + 1, 0, none⟩ = some (.int .i64 z1f0_n) ∧ W'.cell? ⟨w.heap.size + 1, 1, none⟩ = some (.int .i64 z1f1_n) ∧ W'.cell? ⟨w.heap.size + 1, 2, none⟩ = some (.int .i64 z1f2_n) ∧ W'.cell? (ad.add (i * 3)) = some (.int .i64 x.f0) ∧ W'.cell? ⟨(ad.add (i * 3)).block, (ad.add (i * 3)).off + 1, none⟩ = some (.int .i64 x.f1) ∧ W'.cell? ⟨(ad.add (i * 3)).block, (ad.add (i * 3)).off + 2, none⟩ = some (.int .i64 x.f2) from by
        obtain ⟨ad', h, p0, p1, p2⟩ := at_T35 hs.row_C.2.2 ((i : Nat) : Int) (Int.natCast_nonneg i) (Int.ofNat_lt.2 HAB.out.1)
        cases h
        rw [Int.toNat_natCast, show rd_T35 K ((i : Nat) : Int) = x from (rd35 K (i)).trans HX.out] at p0 p1 p2
        exact ⟨blk_cell (St.front 2 hs).blk_is 0, blk_cell (St.front 2 hs).blk_is 1, blk_cell (St.front 2 hs).blk_is 2, p0, p1, p2⟩)
      go_upto_region 10 with fail
      go_cut [9] (fun u wx => u = .bool true ∧ St w wx [row k35 35 (.slice (some ad) n c) K, blk w.heap.size (nodeF z0f0_n z0f1_A l.length z0f1_c z0f2_A m.length z0f2_c) 25, blk (w.heap.size + 1) (keyF z1f0_n z1f1_n z1f2_n) 35])
      case first =>
        by_cases hz : i = 0
        · have z1 : decide ((i : Int) = 0) = true := decide_eq_true (by omega)
          have z2 : decide (i = 0) = true := decide_eq_true hz
          have z3 : ((i : Int) == 0) = true := by rw [hz]; rfl
          obtain ⟨e0, e1, e2, q0, q1, q2⟩ := HPC.out _ HS7.out
          go_quiet (fail)
          go_wp2_with fail
          go_meet
          exact ⟨rfl, HS7.out.drewN _⟩
        · have z1 : decide ((i : Int) = 0) = false := decide_eq_false (by omega)
          have z2 : decide (i = 0) = false := decide_eq_false hz
          have z3 : ((i : Int) == 0) = false := beq_false_of_ne (by omega)
          have HL := Aside0.mk (show cambiumref05_Less.f z1f0_n z1f1_n z1f2_n x.f0 x.f1 x.f2 = some false from (refLess_k (⟨z1f0_n, z1f1_n, z1f2_n⟩ : S35) x).trans (congrArg some (by rw [← HX.out]; exact HAB.out.2.1 hz)))
          clear hz
          refine stepStart (fun w' => w'.cell? ⟨w.heap.size + 1, 0, none⟩ = some (.int .i64 z1f0_n) ∧ w'.cell? ⟨w.heap.size + 1, 1, none⟩ = some (.int .i64 z1f1_n) ∧ w'.cell? ⟨w.heap.size + 1, 2, none⟩ = some (.int .i64 z1f2_n) ∧ w'.cell? (ad.add (i * 3)) = some (.int .i64 x.f0) ∧ w'.cell? ⟨(ad.add (i * 3)).block, (ad.add (i * 3)).off + 1, none⟩ = some (.int .i64 x.f1) ∧ w'.cell? ⟨(ad.add (i * 3)).block, (ad.add (i * 3)).off + 2, none⟩ = some (.int .i64 x.f2)) 12 [0, 1, 2, 3, 4, 5, 6, 7, 8, 9, 10, 11] fnd10_tab fnd10_bits (by kernel_rfl) rfl (HPC.out _ (HS7.out.below_ (Below.refl _ _).drew)) (fun HT_ HW_ hHeld => ?_)
          iterate 3 (refine stepPu (v := ?_) rfl rfl (any_of HT_.out (by kernel_rfl)) (fun _ _ _ h => h) (Or.inl ⟨by rfl, ?_⟩) (a' := ?_) ?_ ?_; rotate_left; (· intro w'; go_simp; with_reducible rfl); rotate_left; (· (simp only [Act.put, List.setIfInBounds_toArray, List.set_cons_zero, List.set_cons_succ, i64_w, i32_w]; rfl)))
          (refine stepLd (v := ?_) rfl rfl (take_ofW HT_.out HW_.out (by kernel_rfl)) (fun _ _ _ h => h) (Or.inl ⟨by rfl, ?_⟩) hHeld (a' := ?_) ?_ ?_; rotate_left; (· rintro w' ⟨s0, s1, s2, s3, s4, s5⟩; go_simp; with_reducible rfl); rotate_left; (· (simp only [Act.put, List.setIfInBounds_toArray, List.set_cons_zero, List.set_cons_succ, i64_w, i32_w]; rfl)))
          iterate 3 (refine stepPu (v := ?_) rfl rfl (any_of HT_.out (by kernel_rfl)) (fun _ _ _ h => h) (Or.inl ⟨by rfl, ?_⟩) (a' := ?_) ?_ ?_; rotate_left; (· intro w'; go_simp; with_reducible rfl); rotate_left; (· (simp only [Act.put, List.setIfInBounds_toArray, List.set_cons_zero, List.set_cons_succ, i64_w, i32_w]; rfl)))
          (refine stepLd (v := ?_) rfl rfl (take_ofW HT_.out HW_.out (by kernel_rfl)) (fun _ _ _ h => h) (Or.inl ⟨by rfl, ?_⟩) hHeld (a' := ?_) ?_ ?_; rotate_left; (· rintro w' ⟨s0, s1, s2, s3, s4, s5⟩; go_simp; with_reducible rfl); rotate_left; (· (simp only [Act.put, List.setIfInBounds_toArray, List.set_cons_zero, List.set_cons_succ, i64_w, i32_w]; rfl)))
          refine stepOne rfl rfl (one_of HT_.out (by kernel_rfl)) (by decide) (fun K hK => ?_)
          refine goes_ Try.func17 (by kernel_rfl) rfl #[.agg #[.int .i64 z1f0_n, .int .i64 z1f1_n, .int .i64 z1f2_n], .agg #[.int .i64 x.f0, .int .i64 x.f1, .int .i64 x.f2]] (by rfl) rfl rfl (by first | rfl | (simp only [List.map_toArray, List.map_cons, List.map_nil]; rfl)) ?_
          with_reducible refine (cambiumref05_Less.calls _ _ _ _ _ _ _ _ HL.out).mono ?_
          rintro e w8 ⟨rfl, hb⟩
          refine ⟨_, rfl, ?_⟩
          have HS8 := Aside0.mk ((HS7.out.below_ (Below.refl _ _).drew).below_ hb)
          clear hb
          refine hK.out _ _ (HPC.out _ HS8.out) (fun hHeld => ?_)
          clear hK K
          refine norm_ (a' := ?_) ?_ ?_
          rotate_left
          · show Act.put _ (some 57) _ = _
            simp only [Act.put, List.setIfInBounds_toArray, List.set_cons_zero, List.set_cons_succ, i64_w, i32_w]
            rfl
          iterate 3 (refine stepPu (v := ?_) rfl rfl (any_of HT_.out (by kernel_rfl)) (fun _ _ _ h => h) (Or.inl ⟨by rfl, ?_⟩) (a' := ?_) ?_ ?_; rotate_left; (· intro w'; go_simp; with_reducible rfl); rotate_left; (· (simp only [Act.put, List.setIfInBounds_toArray, List.set_cons_zero, List.set_cons_succ, i64_w, i32_w]; rfl)))
          refine done_ (done_of HT_.out (by kernel_rfl)) ?_
          go_wp2_with fail
          go_meet
          exact ⟨rfl, HS8.out⟩
      case rest =>
      rename_i wq
      obtain ⟨rfl, hs9⟩ := hcut
      have HS9 := Aside0.mk hs9
      clear hs9
      clear HPC
      obtain ⟨k, hk⟩ : ∃ k, n = k + 1 := ⟨n - 1, by have := HNN.out; omega⟩
      have wk : wrap64 ((n : Int) - 1) = (k : Int) := by have := HNN.out; unfold wrap64; omega
      have HKE := Aside0.mk hk
      clear hk
      go_upto_region 11 with fail
      go_cut [10] (fun u wx => u = .bool true ∧ St w wx [row k35 35 (.slice (some ad) n c) K, blk w.heap.size (nodeF z0f0_n z0f1_A l.length z0f1_c z0f2_A m.length z0f2_c) 25, blk (w.heap.size + 1) (keyF z1f0_n z1f1_n z1f2_n) 35])
      case first =>
        by_cases hz : i = k
        · have z1 : decide ((i : Int) = (k : Int)) = true := decide_eq_true (by omega)
          have z2 : decide (i = k) = true := decide_eq_true hz
          have z3 : ((i : Int) == (k : Int)) = true := by rw [hz]; exact beq_self_eq_true _
          have z4 : (i == k) = true := by rw [hz]; exact beq_self_eq_true _
          clear hz
          go_quiet (fail)
          go_wp2_with fail
          go_meet
          exact ⟨rfl, HS9.out.drewN _⟩
        · have z1 : decide ((i : Int) = (k : Int)) = false := decide_eq_false (by omega)
          have z2 : decide (i = k) = false := decide_eq_false hz
          have z3 : ((i : Int) == (k : Int)) = false := beq_false_of_ne (by omega)
          have z4 : (i == k) = false := beq_false_of_ne hz
          have hlt : i + 1 < n := by have := HAB.out.1; have := HKE.out; omega
          have wi : wrap64 ((i : Int) + 1) = ((i + 1 : Nat) : Int) := by have := HNN.out; unfold wrap64; omega
          have d6 : ((i + 1 : Nat) : Int) < (n : Int) := Int.ofNat_lt.2 hlt
          have d7 : (0 : Int) ≤ ((i + 1 : Nat) : Int) := Int.natCast_nonneg _
          obtain ⟨j, hj⟩ : ∃ j, i + 1 = j := ⟨_, rfl⟩
          have HAJ := Aside0.mk (HAB.out.2.2 hlt)
          rw [hj] at wi d6 d7 HAJ
          obtain ⟨y, hy⟩ : ∃ y, K.getD j z35 = y := ⟨_, rfl⟩
          rw [hy] at HAJ
          have HY := Aside0.mk hy
          have HJ := Aside0.mk (show j < n by omega)
          have HL := Aside0.mk (show cambiumref05_Less.f z1f0_n z1f1_n z1f2_n y.f0 y.f1 y.f2 = some true from (refLess_k (⟨z1f0_n, z1f1_n, z1f2_n⟩ : S35) y).trans (congrArg some HAJ.out))
          clear hz hlt hj hy HAJ
          have HPC := Aside0.mk (fun W' (hs : St w W' [row k35 35 (.slice (some ad) n c) K, blk w.heap.size (nodeF z0f0_n z0f1_A l.length z0f1_c z0f2_A m.length z0f2_c) 25, blk (w.heap.size + 1) (keyF z1f0_n z1f1_n z1f2_n) 35]) => show W'.cell? ⟨w.heap.size + 1, 0, none⟩ = some (.int .i64 z1f0_n) ∧ W'.cell? ⟨w.heap.size + 1, 1, none⟩ = some (.int .i64 z1f1_n) ∧ W'.cell? ⟨w.heap.size + 1, 2, none⟩ = some (.int .i64 z1f2_n) ∧ W'.cell? (ad.add (j * 3)) = some (.int .i64 y.f0) ∧ W'.cell? ⟨(ad.add (j * 3)).block, (ad.add (j * 3)).off + 1, none⟩ = some (.int .i64 y.f1) ∧ W'.cell? ⟨(ad.add (j * 3)).block, (ad.add (j * 3)).off + 2, none⟩ = some (.int .i64 y.f2) from by
            obtain ⟨ad', h, p0, p1, p2⟩ := at_T35 hs.row_C.2.2 ((j : Nat) : Int) (Int.natCast_nonneg j) (Int.ofNat_lt.2 HJ.out)
            cases h
            rw [Int.toNat_natCast, show rd_T35 K ((j : Nat) : Int) = y from (rd35 K (j)).trans HY.out] at p0 p1 p2
            exact ⟨blk_cell (St.front 2 hs).blk_is 0, blk_cell (St.front 2 hs).blk_is 1, blk_cell (St.front 2 hs).blk_is 2, p0, p1, p2⟩)
          refine stepStart (fun w' => w'.cell? ⟨w.heap.size + 1, 0, none⟩ = some (.int .i64 z1f0_n) ∧ w'.cell? ⟨w.heap.size + 1, 1, none⟩ = some (.int .i64 z1f1_n) ∧ w'.cell? ⟨w.heap.size + 1, 2, none⟩ = some (.int .i64 z1f2_n) ∧ w'.cell? (ad.add (j * 3)) = some (.int .i64 y.f0) ∧ w'.cell? ⟨(ad.add (j * 3)).block, (ad.add (j * 3)).off + 1, none⟩ = some (.int .i64 y.f1) ∧ w'.cell? ⟨(ad.add (j * 3)).block, (ad.add (j * 3)).off + 2, none⟩ = some (.int .i64 y.f2)) 15 [0, 1, 2, 3, 4, 5, 6, 7, 8, 9, 10, 11, 12, 13, 14] fnd11_tab fnd11_bits (by kernel_rfl) rfl (HPC.out _ (HS9.out.below_ (Below.refl _ _).drew)) (fun HT_ HW_ hHeld => ?_)
          iterate 6 (refine stepPu (v := ?_) rfl rfl (any_of HT_.out (by kernel_rfl)) (fun _ _ _ h => h) (Or.inl ⟨by rfl, ?_⟩) (a' := ?_) ?_ ?_; rotate_left; (· intro w'; go_simp; with_reducible rfl); rotate_left; (· (simp only [Act.put, List.setIfInBounds_toArray, List.set_cons_zero, List.set_cons_succ, i64_w, i32_w]; rfl)))
          (refine stepLd (v := ?_) rfl rfl (take_ofW HT_.out HW_.out (by kernel_rfl)) (fun _ _ _ h => h) (Or.inl ⟨by rfl, ?_⟩) hHeld (a' := ?_) ?_ ?_; rotate_left; (· rintro w' ⟨s0, s1, s2, s3, s4, s5⟩; go_simp; with_reducible rfl); rotate_left; (· (simp only [Act.put, List.setIfInBounds_toArray, List.set_cons_zero, List.set_cons_succ, i64_w, i32_w]; rfl)))
          iterate 4 (refine stepPu (v := ?_) rfl rfl (any_of HT_.out (by kernel_rfl)) (fun _ _ _ h => h) (Or.inl ⟨by rfl, ?_⟩) (a' := ?_) ?_ ?_; rotate_left; (· intro w'; go_simp; with_reducible rfl); rotate_left; (· (simp only [Act.put, List.setIfInBounds_toArray, List.set_cons_zero, List.set_cons_succ, i64_w, i32_w]; rfl)))
          (refine stepLd (v := ?_) rfl rfl (take_ofW HT_.out HW_.out (by kernel_rfl)) (fun _ _ _ h => h) (Or.inl ⟨by rfl, ?_⟩) hHeld (a' := ?_) ?_ ?_; rotate_left; (· rintro w' ⟨s0, s1, s2, s3, s4, s5⟩; go_simp; with_reducible rfl); rotate_left; (· (simp only [Act.put, List.setIfInBounds_toArray, List.set_cons_zero, List.set_cons_succ, i64_w, i32_w]; rfl)))
          refine stepOne rfl rfl (one_of HT_.out (by kernel_rfl)) (by decide) (fun K hK => ?_)
          refine goes_ Try.func17 (by kernel_rfl) rfl #[.agg #[.int .i64 z1f0_n, .int .i64 z1f1_n, .int .i64 z1f2_n], .agg #[.int .i64 y.f0, .int .i64 y.f1, .int .i64 y.f2]] (by rfl) rfl rfl (by first | rfl | (simp only [List.map_toArray, List.map_cons, List.map_nil]; rfl)) ?_
          with_reducible refine (cambiumref05_Less.calls _ _ _ _ _ _ _ _ HL.out).mono ?_
          rintro e w8 ⟨rfl, hb⟩
          refine ⟨_, rfl, ?_⟩
          have HS8 := Aside0.mk ((HS9.out.below_ (Below.refl _ _).drew).below_ hb)
          clear hb
          refine hK.out _ _ (HPC.out _ HS8.out) (fun hHeld => ?_)
          clear hK K
          refine norm_ (a' := ?_) ?_ ?_
          rotate_left
          · show Act.put _ (some 72) _ = _
            simp only [Act.put, List.setIfInBounds_toArray, List.set_cons_zero, List.set_cons_succ, i64_w, i32_w]
            rfl
          iterate 2 (refine stepPu (v := ?_) rfl rfl (any_of HT_.out (by kernel_rfl)) (fun _ _ _ h => h) (Or.inl ⟨by rfl, ?_⟩) (a' := ?_) ?_ ?_; rotate_left; (· intro w'; go_simp; with_reducible rfl); rotate_left; (· (simp only [Act.put, List.setIfInBounds_toArray, List.set_cons_zero, List.set_cons_succ, i64_w, i32_w]; rfl)))
          refine done_ (done_of HT_.out (by kernel_rfl)) ?_
          go_wp2_with fail
          go_meet
          exact ⟨rfl, HS8.out⟩
      case rest =>
      rename_i wq
      obtain ⟨rfl, hs9⟩ := hcut
      have HS10 := Aside0.mk hs9
      clear hs9
      clear HS9
      go_wp2_with fail
      go_ret
      exact ⟨rfl, HS10.out.below⟩
end Go.Proofs.Ytcjnknpbikfimaa.P
