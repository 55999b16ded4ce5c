/- The bodies of counts, walked. -/
import Derived.Test.YtinhiigkfabcfaaCnt4
import Derived.Test.YtinhiigkfabcfaaCntBody
import Derived.Test.YtinhiigkfabcfaaNumRefPut
import Derived.Test.YtinhiigkfabcfaaNumRefTake
namespace Go.Proofs.Ytinhiigkfabcfaa.P
open Go.RowKit Go.Proofs.YtinhiigkfabcfaaW.PrintWords Go.Proofs.YtinhiigkfabcfaaW.PrintLast Go.Proofs.YtinhiigkfabcfaaW.PrintMore Go.Proofs.Ytinhiigkfabcfaa.Sep Go.Proofs.Ytinhiigkfabcfaa.NumLem
set_option linter.unusedVariables false
attribute [local go_sem] max2_int min2_int max_two min_two max_three min_three max_four min_four
section
variable {w0 w : World} {ps : List HP} {g n ar fi : Nat} {now done : List Int}
theorem num_Put.st {A : Option Addr} {c k : Nat} {l : List Int} (h : St w0 w (row (Kd.int .u8) 5 (.slice A k c) l :: ps)) (x : Int) (hl : l.length ≤ 100000) :
    Calls Try.prog 40 #[.slice A k c, .int .i64 x, .int .i64 2] w fun e w' => ∃ v, e = .returned v ∧ St w0 w' (row (Kd.int .u8) 5 v (putR l x 2) :: ps) := by
  obtain ⟨rfl, hc, hC⟩ := h.row_C
  refine (num_Put.calls A c l x 2 _ w hC hc (Put_is l x 2 (by omega))).mono ?_
  rintro e w' ⟨v, rfl, hr, hb⟩
  exact ⟨v, rfl, St.drop (St.swap (h.row_new hb hr))⟩
theorem refPut.st {A : Option Addr} {c k : Nat} {l : List Int} (h : St w0 w (row (Kd.int .u8) 5 (.slice A k c) l :: ps)) (x : Int) (hl : l.length ≤ 100000) :
    Calls Try.prog 41 #[.slice A k c, .int .i64 x, .int .i64 2] w fun e w' => ∃ v, e = .returned v ∧ St w0 w' (row (Kd.int .u8) 5 v (putR l x 2) :: ps) := by
  obtain ⟨rfl, hc, hC⟩ := h.row_C
  refine (cambiumref01_Put.calls 20 A c l x 2 _ w hC hc (refPut_is l x 2 (by omega))).mono ?_
  rintro e w' ⟨v, rfl, hr, hb⟩
  exact ⟨v, rfl, St.drop (St.swap (h.row_new hb hr))⟩
theorem putR_two (l : List Int) (x : Int) (h : 0 ≤ x ∧ x ≤ 65535) : putR l x 2 = l ++ digits x 2 := by
  unfold putR
  rw [if_neg (by omega), u64_of h.1 (by omega)]
  rfl
set_option maxHeartbeats 1000000 in
theorem counts_Body.st (h : St w0 w (cnt g n ar fi now done :: ps)) (har : ar ≤ 100) (i : Int) :
    Calls Try.prog 29 #[.pointer (some ⟨g, 0, none⟩), .int .i64 i] w fun e w' => ∃ v, e = .returned v ∧ St w0 w' (row (Kd.int .u8) 5 v (bodyI ar now i) :: cnt g n ar fi now done :: ps) := by
  obtain ⟨hp, A1, c1, A2, c2, hs⟩ := cnt_out h
  obtain ⟨k0, k1, k2, k3⟩ := cnt_cells hs
  have HP := Aside0.mk hp
  have HS := Aside0.mk h
  have HAR := Aside0.mk har
  clear h hs hp k0 k1 k3 har
  by_cases h1 : i < 0
  · have h2 : decide (i < 0) = true := decide_eq_true h1
    have HB := Aside0.mk (show bodyI ar now i = [] from if_neg (by omega))
    go_enter Try.func29, Try.ntmps29
    go_wp2
    go_ret
    rw [HB.out]
    exact ⟨_, rfl, HS.out.row_nil⟩
  · obtain ⟨a, rfl⟩ := Int.eq_ofNat_of_zero_le (by omega : 0 ≤ i)
    by_cases h3 : ar ≤ a
    · have h2 : decide ((a : Int) ≥ (ar : Int)) = true := decide_eq_true (by omega)
      have h4 : (ar : Int) ≤ (a : Int) := by omega
      have HB := Aside0.mk (show bodyI ar now (a : Int) = [] from if_neg (by omega))
      go_enter Try.func29, Try.ntmps29
      go_wp2
      go_ret
      rw [HB.out]
      exact ⟨_, rfl, HS.out.row_nil⟩
    · have h2 : decide ((a : Int) ≥ (ar : Int)) = false := decide_eq_false (by omega)
      have h4 : ¬ (ar : Int) ≤ (a : Int) := by omega
      have HB := Aside0.mk (show bodyI ar now (a : Int) = bodyK now a 118 from by unfold bodyI; rw [if_pos (by omega), Int.toNat_natCast])
      have HA := Aside0.mk (show a < 100 from by have := HAR.out; omega)
      clear h1 h3
      go_enter Try.func29, Try.ntmps29
      go_wp2_with fail
      clear h2 h4 k2
      go_loopw [5, 6, 17] (fun v _ j wr => ∃ (m c : Nat) (A : Option Addr), m ≤ 118 ∧ j = .int .i64 m ∧ v = .slice A (2 * m) c ∧ Aside0 (St w0 wr (row (Kd.int .u8) 5 v (bodyK now a m) :: cnt g n ar fi now done :: ps))) (fun _ _ j _ => 118 - (intOf j).toNat)
      case atStart => exact ⟨0, 0, none, by omega, rfl, rfl, ⟨HS.out.row_nil⟩⟩
      case round =>
        clear HS
        obtain ⟨m, c, A, hm, rfl, rfl, HS⟩ := hrel
        by_cases hlt : m < 118
        · have h1 : decide ((m : Int) < 118) = true := decide_eq_true (by omega)
          have h2 : (m : Int) < 118 := by omega
          have h3 : (a : Int) < 100 := by have := HA.out; omega
          have HL := Aside0.mk hlt
          have e1 := Aside0.mk (inc_w m (by omega))
          have e2 := Aside0.mk (show (a : Int) * 118 + (m : Int) = ((a * 118 + m : Nat) : Int) from by omega)
          have HBK := Aside0.mk (show bodyK now a (m + 1) = bodyK now a m ++ digits (getR now ((a : Int) * 118 + (m : Int))) 2 from by rw [bodyK_succ, e2.out])
          have HLN := Aside0.mk (show (bodyK now a m).length ≤ 100000 from by rw [bodyK_length]; omega)
          clear hlt hm
          go_wp2_with fail
          rw [e2.out]
          refine (counts_Get.st HS.out.swap ((a * 118 + m : Nat) : Int)).mono ?_
          rintro e w' ⟨rfl, rfl⟩
          go_wp2_with fail
          refine (num_Put.st HS.out _ HLN.out).mono ?_
          rintro e w4 ⟨v4, rfl, hs⟩
          rw [putR_two _ _ (getR_range HP.out.cn _)] at hs
          first | rw [← HBK.out] at hs | rw [← bodyK_succ] at hs
          obtain ⟨A4, c4, he4⟩ := hs.row_slice
          rw [bodyK_length] at he4
          subst he4
          have HS4 := Aside0.mk hs
          clear hs HS h1 h2
          go_wp2_with fail
          exact ⟨⟨m + 1, c4, A4, HL.out, by first | rfl | rw [e1.out], rfl, HS4⟩, meas_w m 118 HL.out _ (by first | rfl | exact e1.out)⟩
        · obtain rfl : m = 118 := by omega
          clear hlt hm
          go_wp2
          go_ret
          rw [HB.out]
          exact ⟨_, rfl, HS.out⟩
set_option maxHeartbeats 1000000 in
theorem ref_Body.st (h : St w0 w (rcnt g n fi now done :: ps)) (har : areas n ≤ 100) (i : Int) :
    Calls Try.prog 30 #[.pointer (some ⟨g, 0, none⟩), .int .i64 i] w fun e w' => ∃ v, e = .returned v ∧ St w0 w' (row (Kd.int .u8) 5 v (bodyI (areas n) now i) :: rcnt g n fi now done :: ps) := by
  obtain ⟨hp, A1, c1, A2, c2, hs⟩ := rcnt_out h
  obtain ⟨k0, k1⟩ := rcnt_cells hs
  have HP := Aside0.mk hp
  have HS := Aside0.mk h
  have HAR := Aside0.mk har
  clear h hs hp k1 har
  by_cases h1 : i < 0
  · have h2 : decide (i < 0) = true := decide_eq_true h1
    have HB := Aside0.mk (show bodyI (areas n) now i = [] from if_neg (by omega))
    go_enter Try.func30, Try.ntmps30
    go_wp2_with fail
    refine (ref_Areas.st n HP.out.le w).mono ?_
    rintro e w' ⟨rfl, rfl⟩
    go_wp2
    go_ret
    rw [HB.out]
    exact ⟨_, rfl, HS.out.row_nil⟩
  · obtain ⟨a, rfl⟩ := Int.eq_ofNat_of_zero_le (by omega : 0 ≤ i)
    by_cases h3 : areas n ≤ a
    · have h2 : decide ((a : Int) ≥ (areas n : Int)) = true := decide_eq_true (by omega)
      have h4 : (areas n : Int) ≤ (a : Int) := by omega
      have HB := Aside0.mk (show bodyI (areas n) now (a : Int) = [] from if_neg (by omega))
      go_enter Try.func30, Try.ntmps30
      go_wp2_with fail
      refine (ref_Areas.st n HP.out.le w).mono ?_
      rintro e w' ⟨rfl, rfl⟩
      go_wp2
      go_ret
      rw [HB.out]
      exact ⟨_, rfl, HS.out.row_nil⟩
    · have h2 : decide ((a : Int) ≥ (areas n : Int)) = false := decide_eq_false (by omega)
      have h4 : ¬ (areas n : Int) ≤ (a : Int) := by omega
      have HB := Aside0.mk (show bodyI (areas n) now (a : Int) = bodyK now a 118 from by unfold bodyI; rw [if_pos (by omega), Int.toNat_natCast])
      have HA := Aside0.mk (show a < 100 from by have := HAR.out; omega)
      have h5 : decide (areas n ≤ a) = false := decide_eq_false h3
      clear h1
      go_enter Try.func30, Try.ntmps30
      go_wp2_with fail
      refine (ref_Areas.st n HP.out.le w).mono ?_
      rintro e w' ⟨rfl, rfl⟩
      go_wp2_with fail
      clear h2 h4 h5 h3 k0
      have HE := Aside0.mk (show St w0 (w.alloc (.cells #[] 5)) (row (Kd.int .u8) 5 (.slice (some ⟨w.heap.size, 0, none⟩) 0 0) ([] : List Int) :: rcnt g n fi now done :: ps) from St.row_empty (enc := Value.int .u8) (h1 := fun _ => rfl) HS.out 5)
      go_loopw [7, 8] (fun v j wr => ∃ (m c : Nat) (A : Option Addr), m ≤ 118 ∧ j = .int .i64 m ∧ v = .slice A (2 * m) c ∧ Aside0 (St w0 wr (row (Kd.int .u8) 5 v (bodyK now a m) :: rcnt g n fi now done :: ps))) (fun _ j _ => 118 - (intOf j).toNat)
      case atStart => exact ⟨0, 0, _, by omega, rfl, rfl, HE⟩
      case round =>
        clear HS HE
        obtain ⟨m, c, A, hm, rfl, rfl, HS⟩ := hrel
        by_cases hlt : m < 118
        · have h1 : decide ((m : Int) < 118) = true := decide_eq_true (by omega)
          have h2 : (m : Int) < 118 := by omega
          have h3 : (a : Int) < 100 := by have := HA.out; omega
          have HL := Aside0.mk hlt
          have e1 := Aside0.mk (inc_w m (by omega))
          have e2 := Aside0.mk (show (a : Int) * 118 + (m : Int) = ((a * 118 + m : Nat) : Int) from by omega)
          have HBK := Aside0.mk (show bodyK now a (m + 1) = bodyK now a m ++ digits (getR now ((a : Int) * 118 + (m : Int))) 2 from by rw [bodyK_succ, e2.out])
          have HLN := Aside0.mk (show (bodyK now a m).length ≤ 100000 from by rw [bodyK_length]; omega)
          clear hlt hm
          go_wp2_with fail
          rw [e2.out]
          refine (ref_Get.st HS.out.swap ((a * 118 + m : Nat) : Int)).mono ?_
          rintro e w' ⟨rfl, rfl⟩
          go_wp2_with fail
          refine (refPut.st HS.out _ HLN.out).mono ?_
          rintro e w4 ⟨v4, rfl, hs⟩
          rw [putR_two _ _ (getR_range HP.out.cn _)] at hs
          first | rw [← HBK.out] at hs | rw [← bodyK_succ] at hs
          obtain ⟨A4, c4, he4⟩ := hs.row_slice
          rw [bodyK_length] at he4
          subst he4
          have HS4 := Aside0.mk hs
          clear hs HS h1 h2
          go_wp2_with fail
          exact ⟨⟨m + 1, c4, A4, HL.out, by first | rfl | rw [e1.out], rfl, HS4⟩, meas_w m 118 HL.out _ (by first | rfl | exact e1.out)⟩
        · obtain rfl : m = 118 := by omega
          clear hlt hm
          go_wp2
          go_ret
          rw [HB.out]
          exact ⟨_, rfl, HS.out⟩
end
end Go.Proofs.Ytinhiigkfabcfaa.P
