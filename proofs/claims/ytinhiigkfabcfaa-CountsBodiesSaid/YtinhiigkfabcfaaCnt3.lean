/- The document's counts, each function walked once. -/
import Derived.Test.YtinhiigkfabcfaaCnt2
namespace Go.Proofs.Ytinhiigkfabcfaa.P
open Go.RowKit Go.Proofs.YtinhiigkfabcfaaW.PrintWords Go.Proofs.YtinhiigkfabcfaaW.PrintLast Go.Proofs.YtinhiigkfabcfaaW.PrintMore Go.Proofs.Ytinhiigkfabcfaa.Sep
set_option linter.unusedVariables false
attribute [local go_sem] max2_int min2_int max_two min_two max_three min_three max_four min_four
abbrev rCells (A1 : Option Addr) (c1 : Nat) (A2 : Option Addr) (c2 n : Nat) : Array Value := #[.slice A1 n c1, .slice A2 n c2]
def rcnt (g n fi : Nat) (now done : List Int) : HP := ex fun p : (Option Addr × Nat) × (Option Addr × Nat) => and (CP n fi now done ∧ 32 ≤ n ∧ fi = firstOf n) (all [blk g (rCells p.1.1 p.1.2 p.2.1 p.2.2 n) 60, row (Kd.int .i64) 3 (.slice p.1.1 n p.1.2) now, row (Kd.int .i64) 3 (.slice p.2.1 n p.2.2) done])
section
variable {w0 w : World} {ps : List HP} {g n fi : Nat} {now done : List Int}
theorem rcnt_out' (h : St w0 w (rcnt g n fi now done :: ps)) : (CP n fi now done ∧ 32 ≤ n ∧ fi = firstOf n) ∧ ∃ A1 c1 A2 c2, St w0 w (blk g (rCells A1 c1 A2 c2 n) 60 :: row (Kd.int .i64) 3 (.slice A1 n c1) now :: row (Kd.int .i64) 3 (.slice A2 n c2) done :: ps) := by
  obtain ⟨⟨⟨A1, c1⟩, A2, c2⟩, h⟩ := h.out_ex
  obtain ⟨hp, h⟩ := h.out_and
  exact ⟨hp, A1, c1, A2, c2, h.out_all⟩
theorem rcnt_out (h : St w0 w (rcnt g n fi now done :: ps)) : CP n fi now done ∧ ∃ A1 c1 A2 c2, St w0 w (blk g (rCells A1 c1 A2 c2 n) 60 :: row (Kd.int .i64) 3 (.slice A1 n c1) now :: row (Kd.int .i64) 3 (.slice A2 n c2) done :: ps) :=
  ⟨(rcnt_out' h).1.1, (rcnt_out' h).2⟩
theorem rcnt_in' (hp : CP n fi now done) (h2 : 32 ≤ n ∧ fi = firstOf n) {A1 A2 : Option Addr} {c1 c2 : Nat} (h : St w0 w (blk g (rCells A1 c1 A2 c2 n) 60 :: row (Kd.int .i64) 3 (.slice A1 n c1) now :: row (Kd.int .i64) 3 (.slice A2 n c2) done :: ps)) : St w0 w (rcnt g n fi now done :: ps) :=
  St.in_ex ((A1, c1), (A2, c2)) (St.in_and ⟨hp, h2⟩ (St.in_all [_, _, _] h))
theorem rcnt_cells {A1 A2 : Option Addr} {c1 c2 : Nat} {qs : List HP} (h : St w0 w (blk g (rCells A1 c1 A2 c2 n) 60 :: qs)) :
    w.cell? ⟨g, 0, none⟩ = some (.slice A1 n c1) ∧ w.cell? ⟨g, 1, none⟩ = some (.slice A2 n c2) := ⟨blk_cell h.blk_is 0, blk_cell h.blk_is 1⟩
theorem areas_lt (n a : Nat) (h : ¬ a * 118 < n) (h2 : a = 0 ∨ (a - 1) * 118 < n) : a = areas n := by unfold areas; omega
set_option maxHeartbeats 1000000 in
theorem ref_Areas.st (n : Nat) (h2 : n ≤ 2048) (w : World) :
    Calls Try.prog 11 #[.int .i64 n] w fun e w' => e = .returned (.tuple #[.int .i64 (areas n), .int .i64 (firstOf n)]) ∧ w = w' := by
  have HN := Aside0.mk h2
  clear h2
  go_enter Try.func11, Try.ntmps11
  go_wp2_with fail
  go_loop [4] (fun i => ∃ a : Nat, i = .int .i64 a ∧ a ≤ 2048 ∧ Aside0 (a = 0 ∨ (a - 1) * 118 < n)) (fun i => 2048 - (intOf i).toNat)
  case atStart => exact ⟨0, rfl, by omega, ⟨Or.inl rfl⟩⟩
  case round =>
    obtain ⟨a, rfl, ha, HQ⟩ := hrel
    have HA := Aside0.mk ha
    have h1 : (a : Int) ≤ 2048 := by omega
    by_cases hlt : a * 118 < n
    · have h2 : (a : Int) * 118 < (n : Int) := by omega
      have h3 : decide ((a : Int) * 118 < (n : Int)) = true := decide_eq_true h2
      have HL := Aside0.mk (show a < 2048 from by have := HN.out; omega)
      have HLT := Aside0.mk hlt
      have e1 := Aside0.mk (inc_w a (by omega))
      clear hlt ha
      go_wp2_with fail
      have h5 : (a : Int) + 1 = ((a + 1 : Nat) : Int) := rfl
      refine ⟨⟨a + 1, by first | rfl | rw [e1.out], HL.out, ⟨Or.inr (by rw [Nat.add_sub_cancel]; exact HLT.out)⟩⟩, meas_w a 2048 HL.out _ (by first | rfl | exact e1.out)⟩
    · have h2 : ¬ (a : Int) * 118 < (n : Int) := by omega
      have h3 : decide ((a : Int) * 118 < (n : Int)) = false := decide_eq_false h2
      have HE := Aside0.mk (areas_lt n a hlt HQ.out)
      clear hlt ha
      go_wp2
      go_ret2
      rw [HE.out, first_w]
      exact ⟨rfl, rfl⟩
set_option maxHeartbeats 1000000 in
theorem ref_First.st (h : St w0 w (rcnt g n fi now done :: ps)) :
    Calls Try.prog 35 #[.pointer (some ⟨g, 0, none⟩)] w fun e w' => e = .returned (.int .i64 fi) ∧ w = w' := by
  obtain ⟨hp, A1, c1, A2, c2, hs⟩ := rcnt_out' h
  obtain ⟨k0, k1⟩ := rcnt_cells hs
  have HP := Aside0.mk hp
  clear h hs hp k1
  go_enter Try.func35, Try.ntmps35
  go_wp2_with fail
  refine (ref_Areas.st n HP.out.1.le w).mono ?_
  rintro e w' ⟨rfl, rfl⟩
  go_wp2
  go_ret
  rw [HP.out.2.2]
  exact ⟨rfl, rfl⟩
set_option maxHeartbeats 1000000 in
theorem ref_Get.st (h : St w0 w (rcnt g n fi now done :: ps)) (a : Int) :
    Calls Try.prog 36 #[.pointer (some ⟨g, 0, none⟩), .int .i64 a] w fun e w' => e = .returned (.int .i64 (getR now a)) ∧ w = w' := by
  obtain ⟨hp, A1, c1, A2, c2, hs⟩ := rcnt_out h
  obtain ⟨k0, k1⟩ := rcnt_cells hs
  have HS := Aside0.mk hs
  have HP := Aside0.mk hp
  clear h hs hp k1
  by_cases h1 : a < 0
  · have h2 : decide (a < 0) = true := decide_eq_true h1
    rw [getR_out (by omega)]
    go_enter Try.func36, Try.ntmps36
    go_wp2
    go_ret
    exact ⟨rfl, rfl⟩
  · obtain ⟨i, rfl⟩ := Int.eq_ofNat_of_zero_le (by omega : 0 ≤ a)
    by_cases h3 : i < n
    · rw [getR_in (by rw [HP.out.ln]; exact h3)]
      obtain ⟨g1, rfl, hc, hf, _⟩ := HS.out.swap.row_at i h3 0
      have h4 : (i : Int) < (n : Int) := by omega
      have h5 : decide ((i : Int) ≥ (n : Int)) = false := decide_eq_false (by omega)
      go_enter Try.func36, Try.ntmps36
      go_wp2
      go_ret
      exact ⟨rfl, rfl⟩
    · rw [getR_out (by rw [HP.out.ln]; omega)]
      have h4 : ¬ (i : Int) < (n : Int) := by omega
      have h5 : decide ((i : Int) ≥ (n : Int)) = true := decide_eq_true (by omega)
      go_enter Try.func36, Try.ntmps36
      go_wp2
      go_ret
      exact ⟨rfl, rfl⟩
theorem ref_Fresh.st (h : St w0 w (rcnt g n fi now done :: ps)) (a : Int) :
    Calls Try.prog 39 #[.pointer (some ⟨g, 0, none⟩), .int .i64 a] w fun e w' => e = .returned (.bool (freshB now done a)) ∧ w = w' := by
  obtain ⟨hp, A1, c1, A2, c2, hs⟩ := rcnt_out h
  obtain ⟨k0, k1⟩ := rcnt_cells hs
  have HS := Aside0.mk hs
  have HP := Aside0.mk hp
  have HH := Aside0.mk h
  have hr := getR_range hp.cn a
  clear h hs hp k0
  unfold freshB
  by_cases h1 : getR now a = 0
  · go_enter Try.func39, Try.ntmps39
    go_wp2_with fail
    refine (ref_Get.st HH.out a).mono ?_
    rintro e w' ⟨rfl, rfl⟩
    rw [h1]
    clear hr
    go_wp2
    go_ret
    exact ⟨by simp [h1], rfl⟩
  · obtain ⟨i, rfl, hi⟩ := getR_pos h1
    obtain ⟨x, hx⟩ : ∃ x, getR now (i : Int) = x := ⟨_, rfl⟩
    obtain ⟨y, hy⟩ : ∃ y, done.getD i 0 = y := ⟨_, rfl⟩
    rw [hx] at h1 hr
    have hi2 : i < n := by rw [← HP.out.ln]; exact hi
    obtain ⟨g2, rfl, hc2, _, _⟩ := (HS.out.front 2).row_at i hi2 0
    rw [hy] at hc2
    have h2 : (i : Int) < (n : Int) := by omega
    have h3 : decide (x > 0) = true := decide_eq_true (by omega)
    have h4 : decide (getR now (i : Int) ≠ 0) = true := decide_eq_true (by rw [hx]; exact h1)
    rw [h4, Int.toNat_natCast, hy]
    have HX := Aside0.mk hx
    clear hi hi2 hy hx h4
    go_enter Try.func39, Try.ntmps39
    go_wp2_with fail
    refine (ref_Get.st HH.out (i : Int)).mono ?_
    rintro e w' ⟨rfl, rfl⟩
    rw [HX.out]
    go_wp2
    go_ret
    exact ⟨by simp [h1], rfl⟩
set_option maxHeartbeats 1000000 in
theorem ref_Ref.st (h : St w0 w (rcnt g n fi now done :: ps)) (a : Int) (x : Int) (hx : getR now a = x) :
    Calls Try.prog 23 #[.pointer (some ⟨g, 0, none⟩), .int .i64 a] w fun e w' => RefPost w0 ps (rcnt g n fi) now done a x e w' := by
  obtain ⟨hp, A1, c1, A2, c2, hs⟩ := rcnt_out h
  obtain ⟨k0, k1⟩ := rcnt_cells hs
  have HP := Aside0.mk hp
  have HH := Aside0.mk h
  have H32 := Aside0.mk (rcnt_out' h).1.2
  have HS := Aside0.mk hs
  have HX := Aside0.mk hx
  have hr := getR_range hp.cn a
  rw [hx] at hr
  have HRG := Aside0.mk hr
  clear h hs hp k1 hx hr
  by_cases h0 : x = 0
  · subst h0
    go_enter Try.func23, Try.ntmps23
    go_wp2_with fail
    refine (ref_Get.st HH.out a).mono ?_
    rintro e w' ⟨rfl, rfl⟩
    rw [HX.out]
    go_wp2
    go_ret
    exact ⟨rfl, HH.out⟩
  · by_cases h1 : x = 65535
    · subst h1
      go_enter Try.func23, Try.ntmps23
      go_wp2_with fail
      refine (ref_Get.st HH.out a).mono ?_
      rintro e w' ⟨rfl, rfl⟩
      rw [HX.out]
      go_wp2
      go_ret
      exact ⟨rfl, HH.out⟩
    · obtain ⟨i, rfl, hi⟩ := getR_pos (by rw [HX.out]; exact h0)
      have hi2 : i < n := by rw [← HP.out.ln]; exact hi
      obtain ⟨g1, rfl, hc, hf, hset⟩ := HS.out.swap.row_at i hi2 0
      rw [← getR_in hi, HX.out] at hc
      have HSET := Aside0.mk (hset (x + 1))
      have h2 : (i : Int) < (n : Int) := by omega
      have h3 : (x == 0) = false := by simp [h0]
      have h4 : (x == 65535) = false := by simp [h1]
      have e1 : wrap64 (x + 1) = x + 1 := by have := HRG.out; unfold wrap64; omega
      have HE1 := Aside0.mk e1
      have HPS := Aside0.mk (HP.out.set i (x + 1) (by have := HRG.out; omega))
      have HN0 := Aside0.mk h0
      have HN1 := Aside0.mk h1
      clear hset hi hi2 h0 h1
      go_enter Try.func23, Try.ntmps23
      go_wp2_with fail
      refine (ref_Get.st HH.out (i : Int)).mono ?_
      rintro e w' ⟨rfl, rfl⟩
      rw [HX.out]
      go_wp2
      go_ret
      unfold RefPost
      rw [if_neg HN0.out, if_neg HN1.out, Int.toNat_natCast]
      exact ⟨rfl, rcnt_in' HPS.out H32.out HSET.out.swap⟩
set_option maxHeartbeats 1000000 in
theorem ref_Unref.st (h : St w0 w (rcnt g n fi now done :: ps)) (a : Int) (x : Int) (hx : getR now a = x) :
    Calls Try.prog 24 #[.pointer (some ⟨g, 0, none⟩), .int .i64 a] w fun e w' => UnrefPost w0 ps (rcnt g n fi) now done a x e w' := by
  obtain ⟨hp, A1, c1, A2, c2, hs⟩ := rcnt_out h
  obtain ⟨k0, k1⟩ := rcnt_cells hs
  have HP := Aside0.mk hp
  have HH := Aside0.mk h
  have H32 := Aside0.mk (rcnt_out' h).1.2
  have HS := Aside0.mk hs
  have HX := Aside0.mk hx
  have hr := getR_range hp.cn a
  rw [hx] at hr
  have HRG := Aside0.mk hr
  clear h hs hp k1 hx hr
  by_cases h0 : x = 0
  · subst h0
    go_enter Try.func24, Try.ntmps24
    go_wp2_with fail
    refine (ref_Get.st HH.out a).mono ?_
    rintro e w' ⟨rfl, rfl⟩
    rw [HX.out]
    go_wp2
    go_ret2
    exact ⟨rfl, HH.out⟩
  · obtain ⟨i, rfl, hi⟩ := getR_pos (by rw [HX.out]; exact h0)
    have hi2 : i < n := by rw [← HP.out.ln]; exact hi
    obtain ⟨g1, rfl, hc, hf, hset⟩ := HS.out.swap.row_at i hi2 0
    rw [← getR_in hi, HX.out] at hc
    have HSET := Aside0.mk (hset (x - 1))
    have hk := (rcnt_cells HSET.out.swap).1
    have hc2 := Own2.at_ HSET.out i hi2 (x - 1) (by rw [List.getD_eq_getElem?_getD, List.getElem?_set_self hi]; rfl)
    have h2 : (i : Int) < (n : Int) := by omega
    have h3 : (x == 0) = false := by simp [h0]
    have e1 : wrap64 (x - 1) = x - 1 := by have := HRG.out; unfold wrap64; omega
    have HE1 := Aside0.mk e1
    have HPS := Aside0.mk (HP.out.set i (x - 1) (by have := HRG.out; omega))
    have HN0 := Aside0.mk h0
    clear hset hi hi2 h0
    go_enter Try.func24, Try.ntmps24
    go_wp2_with fail
    refine (ref_Get.st HH.out (i : Int)).mono ?_
    rintro e w' ⟨rfl, rfl⟩
    rw [HX.out]
    go_wp2_with fail
    go_ret2
    unfold UnrefPost
    rw [if_neg HN0.out, Int.toNat_natCast]
    exact ⟨rfl, rcnt_in' HPS.out H32.out HSET.out.swap⟩
set_option maxHeartbeats 1000000 in
theorem ref_Free.st (h : St w0 w (rcnt g n fi now done :: ps)) :
    Calls Try.prog 38 #[.pointer (some ⟨g, 0, none⟩)] w fun e w' => e = .returned (.int .i64 (nfree now done fi (n - fi) : Nat)) ∧ w = w' := by
  obtain ⟨hp, A1, c1, A2, c2, hs⟩ := rcnt_out h
  obtain ⟨k0, k1⟩ := rcnt_cells hs
  have HP := Aside0.mk hp
  have HH := Aside0.mk h
  have HS := Aside0.mk hs
  obtain ⟨r, hr⟩ : ∃ r, nfree now done fi (n - fi) = r := ⟨_, rfl⟩
  rw [hr]
  have HR := Aside0.mk hr
  have K0 := Aside0.mk k0
  have K1 := Aside0.mk k1
  clear h hs hp hr
  go_enter Try.func38, Try.ntmps38
  go_wp2_with fail
  refine (ref_First.st HH.out).mono ?_
  rintro e w' ⟨rfl, rfl⟩
  go_wp2_with fail
  go_loop [3, 4] (fun c i => ∃ (a m : Nat), i = .int .i64 a ∧ c = .int .i64 m ∧ m ≤ a ∧ a ≤ n ∧ Aside0 (m + nfree now done a (n - a) = r)) (fun _ i => n - (intOf i).toNat)
  case atStart => exact ⟨fi, 0, rfl, rfl, Nat.zero_le _, HP.out.fi, ⟨by rw [Nat.zero_add]; exact HR.out⟩⟩
  case round =>
    obtain ⟨a, m, rfl, rfl, hm, ha, HQ⟩ := hrel
    have HM := Aside0.mk hm
    have HA := Aside0.mk ha
    clear hm ha
    by_cases hlt : a < n
    · have h1 : decide ((a : Int) < (n : Int)) = true := decide_eq_true (by omega)
      have h2 : (a : Int) < (n : Int) := by omega
      have HLT := Aside0.mk hlt
      obtain ⟨x, hx⟩ : ∃ x, now.getD a 0 = x := ⟨_, rfl⟩
      obtain ⟨y, hy⟩ : ∃ y, done.getD a 0 = y := ⟨_, rfl⟩
      have e1 := Aside0.mk (inc_w a (by have := HP.out.le; omega))
      have e2 := Aside0.mk (inc_w m (by have := HP.out.le; have := HM.out; omega))
      have hq := HQ.out
      rw [show n - a = (n - (a + 1)) + 1 from by omega] at hq
      unfold nfree at hq
      unfold freeB at hq
      rw [hx, hy] at hq
      have HQ2 := Aside0.mk hq
      obtain ⟨g1, hA1, hc1, _⟩ := HS.out.swap.row_at a hlt 0
      obtain ⟨g2, hA2, hc2, _⟩ := (HS.out.front 2).row_at a hlt 0
      rw [hx] at hc1
      rw [hy] at hc2
      subst hA1 hA2
      clear hlt hq HQ hx hy
      by_cases hx0 : x = 0
      · subst hx0
        by_cases hy0 : y = 0
        · subst hy0
          go_wp2_with fail
          have h5 := e1.out
          have h6 := e2.out
          have hq := HQ2.out
          simp at hq
          refine ⟨⟨a + 1, m + 1, by rw [h5], by rw [h6], Nat.succ_le_succ HM.out, HLT.out, ⟨by omega⟩⟩, meas_w a n HLT.out _ h5⟩
        · have hy1 : (y == 0) = false := by simp [hy0]
          have HY := Aside0.mk hy0
          clear hy0
          go_wp2_with fail
          have h5 := e1.out
          have hq := HQ2.out
          simp [HY.out] at hq
          refine ⟨⟨a + 1, m, by rw [h5], rfl, Nat.le_succ_of_le HM.out, HLT.out, ⟨by omega⟩⟩, meas_w a n HLT.out _ h5⟩
      · have hx1 : (x == 0) = false := by simp [hx0]
        have HY := Aside0.mk hx0
        clear hx0
        go_wp2_with fail
        have h5 := e1.out
        have hq := HQ2.out
        simp [HY.out] at hq
        refine ⟨⟨a + 1, m, by rw [h5], rfl, Nat.le_succ_of_le HM.out, HLT.out, ⟨by omega⟩⟩, meas_w a n HLT.out _ h5⟩
    · have h1 : decide ((a : Int) < (n : Int)) = false := decide_eq_false (by omega)
      have h2 : ¬ (a : Int) < (n : Int) := by omega
      have hq := HQ.out
      rw [show n - a = 0 from by omega] at hq
      obtain rfl : m = r := hq
      clear HR
      go_wp2
      go_ret
      exact ⟨rfl, rfl⟩
set_option maxHeartbeats 1000000 in
theorem ref_Alloc.st (h : St w0 w (rcnt g n fi now done :: ps)) (r : Option Nat) (hr : scan now done fi (n - fi) = r) :
    Calls Try.prog 22 #[.pointer (some ⟨g, 0, none⟩)] w fun e w' => AllocPost w0 ps (rcnt g n fi) now done r e w' := by
  have H32 := Aside0.mk (rcnt_out' h).1.2
  obtain ⟨hp, A1, c1, A2, c2, hs⟩ := rcnt_out h
  obtain ⟨k0, k1⟩ := rcnt_cells hs
  have HP := Aside0.mk hp
  have HH := Aside0.mk h
  have HS := Aside0.mk hs
  have HR := Aside0.mk hr
  clear h hs hp hr
  go_enter Try.func22, Try.ntmps22
  go_wp2_with fail
  refine (ref_First.st HH.out).mono ?_
  rintro e w' ⟨rfl, rfl⟩
  go_wp2_with fail
  go_loop [4] (fun i => ∃ a : Nat, i = .int .i64 a ∧ a ≤ n ∧ Aside0 (scan now done a (n - a) = r)) (fun i => n - (intOf i).toNat)
  case atStart => exact ⟨fi, rfl, HP.out.fi, HR⟩
  case round =>
    obtain ⟨a, rfl, ha, HQ⟩ := hrel
    have HA := Aside0.mk ha
    clear ha
    by_cases hlt : a < n
    · have h1 : decide ((a : Int) < (n : Int)) = true := decide_eq_true (by omega)
      have h2 : (a : Int) < (n : Int) := by omega
      have HLT := Aside0.mk hlt
      obtain ⟨x, hx⟩ : ∃ x, now.getD a 0 = x := ⟨_, rfl⟩
      obtain ⟨y, hy⟩ : ∃ y, done.getD a 0 = y := ⟨_, rfl⟩
      have e1 := Aside0.mk (inc_w a (by have := HP.out.le; omega))
      have hq := HQ.out
      rw [show n - a = (n - (a + 1)) + 1 from by omega] at hq
      unfold scan at hq
      unfold freeB at hq
      rw [hx, hy] at hq
      have HQ2 := Aside0.mk hq
      obtain ⟨g1, hA1, hc1, hf, hset⟩ := HS.out.swap.row_at a hlt 0
      obtain ⟨g2, hA2, hc2, _⟩ := (HS.out.front 2).row_at a hlt 0
      rw [hx] at hc1
      rw [hy] at hc2
      subst hA1 hA2
      have HSET := Aside0.mk (hset 1)
      clear hset hlt hq HQ hx hy
      by_cases hx0 : x = 0
      · subst hx0
        by_cases hy0 : y = 0
        · subst hy0
          have hq := HQ2.out
          simp at hq
          subst hq
          go_wp2_with fail
          go_ret2
          exact ⟨rfl, rcnt_in' (HP.out.set a 1 (by decide)) H32.out HSET.out.swap⟩
        · have hy1 : (y == 0) = false := by simp [hy0]
          have HY := Aside0.mk hy0
          clear hy0
          go_wp2_with fail
          have h5 := e1.out
          have hq := HQ2.out
          simp [HY.out] at hq
          refine ⟨⟨a + 1, by rw [h5], HLT.out, ⟨hq⟩⟩, meas_w a n HLT.out _ h5⟩
      · have hx1 : (x == 0) = false := by simp [hx0]
        have HY := Aside0.mk hx0
        clear hx0
        go_wp2_with fail
        have h5 := e1.out
        have hq := HQ2.out
        simp [HY.out] at hq
        refine ⟨⟨a + 1, by rw [h5], HLT.out, ⟨hq⟩⟩, meas_w a n HLT.out _ h5⟩
    · have h1 : decide ((a : Int) < (n : Int)) = false := decide_eq_false (by omega)
      have h2 : ¬ (a : Int) < (n : Int) := by omega
      have hq := HQ.out
      rw [show n - a = 0 from by omega] at hq
      obtain rfl : none = r := hq
      clear HR
      go_wp2
      go_ret2
      exact ⟨rfl, HH.out⟩
set_option maxHeartbeats 1000000 in
theorem ref_Commit.st (h : St w0 w (rcnt g n fi now done :: ps)) :
    Calls Try.prog 25 #[.pointer (some ⟨g, 0, none⟩)] w fun e w' => e = .returned (.tuple #[]) ∧ St w0 w' (rcnt g n fi now now :: ps) := by
  have H32 := Aside0.mk (rcnt_out' h).1.2
  obtain ⟨hp, A1, c1, A2, c2, hs⟩ := rcnt_out h
  obtain ⟨k0, k1⟩ := rcnt_cells hs
  have HP := Aside0.mk hp
  have HC := Aside0.mk (hs.swap.row_C).2.2
  have HE : Aside0 (St w0 (w.alloc (.cells #[] 3)) (row (Kd.int .i64) 3 (.slice (some ⟨w.heap.size, 0, none⟩) 0 0) ([] : List Int) :: blk g (rCells A1 c1 A2 c2 n) 60 :: row (Kd.int .i64) 3 (.slice A1 n c1) now :: row (Kd.int .i64) 3 (.slice A2 n c2) done :: ps)) := Aside0.mk (St.row_empty (enc := Value.int .i64) (h1 := fun _ => rfl) hs 3)
  have k2 := (rcnt_cells HE.out.swap).1
  clear h hs hp k1
  go_enter Try.func25, Try.ntmps25
  go_wp2_with (first | ((with_reducible refine gate_builtin (b := .append) (xs := #[.tmp 3, .tmp 7]) rfl ?_); at_builtin; refine St.append_rows (d := Kd.int .i64) rfl (.tmp 3) (.tmp 7) 36 3 (.int .i64 0) 8 rfl Try.underlying36 info3 rfl (by decide) (by decide) _ [] now _ _ _ rfl rfl HE.out (Kd.C_below HC.out (below_alloc (Below.refl _ _) _)) (fun _ _ h => h) (show (([] : List Int).length + n) * 8 ≤ 140737488355328 from by have := HP.out.le; simp; omega) ?_; intro v6 w6 hs6; rw [List.nil_append] at hs6; obtain ⟨A6, c6, he6⟩ := hs6.row_slice; rw [HP.out.ln] at he6; subst he6; have HS6 := Aside0.mk hs6; clear hs6; have k6 := (rcnt_cells HS6.out.swap).2; have f6 := blk_frozen HS6.out.swap.blk_is 1; clear k2))
  go_end0
  exact ⟨rfl, rcnt_in' HP.out.commit H32.out (St.front 2 (St.front 2 (St.swap (St.drop (St.front 3 ((HS6.out.swap).blk_set 1 (.slice A6 n c6)))))))⟩
set_option maxHeartbeats 1000000 in
theorem ref_New.st (h : St w0 w ps) (n : Int) :
    Calls Try.prog 21 #[.int .i64 n] w fun e w' => NewPost w0 ps (fun g n fi now done => rcnt g n fi now done) n e w' := by
  have HH := Aside0.mk h
  clear h
  by_cases h1 : n < 32
  · have h2 : decide (n < 32) = true := decide_eq_true h1
    have HNE := Aside0.mk (show ¬ (32 ≤ n ∧ n ≤ 2048) from by omega)
    go_enter Try.func21, Try.ntmps21
    go_wp2
    go_ret2
    unfold NewPost
    rw [if_neg HNE.out]
    exact ⟨rfl, HH.out⟩
  · by_cases h3 : n > 2048
    · have h4 : decide (n > 2048) = true := decide_eq_true h3
      have HNE := Aside0.mk (show ¬ (32 ≤ n ∧ n ≤ 2048) from by omega)
      go_enter Try.func21, Try.ntmps21
      go_wp2
      go_ret2
      unfold NewPost
      rw [if_neg HNE.out]
      exact ⟨rfl, HH.out⟩
    · have HPO := Aside0.mk (show 32 ≤ n ∧ n ≤ 2048 from by omega)
      obtain ⟨m, rfl⟩ := Int.eq_ofNat_of_zero_le (by omega : 0 ≤ n)
      have h5 : decide ((m : Int) > 2048) = false := decide_eq_false h3
      have HL := Aside0.mk (show 32 ≤ m ∧ m ≤ 2048 from by omega)
      have hmk := print_make_of (P := Try.prog) 36 3 (.int .i64 0) 8 Try.underlying36 info3 rfl (by decide) m (by omega)
      have h6 : ¬ (2048 : Int) < (m : Int) := h3
      have hz1 := fun W : World => (show (W.alloc (.cells (madeCells #[.int .i64 0] m) 3)).heap.size = W.heap.size + 1 from by simp)
      go_enter Try.func21, Try.ntmps21
      go_wp2_with fail
      go_region_with (fail)
      all_goals
        go_wp2
        go_ret2
        unfold NewPost
        rw [if_pos HPO.out, Int.toNat_natCast]
        have HA := HH.out.row_made (enc := Value.int .i64) (h1 := fun _ => rfl) (z := (0 : Int)) 3 m (by have := HL.out; omega)
        have HB := HA.row_made (enc := Value.int .i64) (h1 := fun _ => rfl) (z := (0 : Int)) 3 m (by have := HL.out; omega)
        rw [show (w.alloc (.cells (madeCells #[Value.int .i64 0] m) 3)).heap.size = w.heap.size + 1 from by simp] at HB
        have HP := CP.zeros (n := m) (fi := firstOf m) HL.out.2 (firstOf_le HL.out.1)
        refine ⟨w.heap.size + 1 + 1, rfl, ?_⟩
        have HZ : ((w.alloc (.cells (madeCells #[Value.int .i64 0] m) 3)).alloc (.cells (madeCells #[Value.int .i64 0] m) 3)).heap.size = w.heap.size + 1 + 1 := by simp
        have HC1 := HB.alloc_ (rCells (some ⟨w.heap.size + 1, 0, none⟩) m (some ⟨w.heap.size, 0, none⟩) m m) 60
        have HC2 := HB.alloc_ (rCells (some ⟨w.heap.size, 0, none⟩) m (some ⟨w.heap.size + 1, 0, none⟩) m m) 60
        rw [HZ] at HC1 HC2
        first
          | exact rcnt_in' HP ⟨HL.out.1, rfl⟩ HC1
          | exact rcnt_in' HP ⟨HL.out.1, rfl⟩ HC1.drew
          | exact rcnt_in' HP ⟨HL.out.1, rfl⟩ (St.front 2 (St.front 2 (St.swap HC2)))
          | exact rcnt_in' HP ⟨HL.out.1, rfl⟩ (St.front 2 (St.front 2 (St.swap HC2.drew)))
        done
end
end Go.Proofs.Ytinhiigkfabcfaa.P
