/- The document's counts of bodies, walked. -/
import Derived.Test.YtinhiigkfabcfaaCnt6
namespace Go.Proofs.Ytinhiigkfabcfaa.P
open Go.RowKit Go.Proofs.YtinhiigkfabcfaaW.PrintWords Go.Proofs.YtinhiigkfabcfaaW.PrintLast Go.Proofs.YtinhiigkfabcfaaW.PrintMore Go.Proofs.Ytinhiigkfabcfaa.Sep Go.Proofs.Ytinhiigkfabcfaa.NumLem
set_option linter.unusedVariables false
attribute [local go_sem] max2_int min2_int max_two min_two max_three min_three max_four min_four
theorem set_zero {l : List Int} {p : Nat} (h : l.getD p 0 = 0) : l.set p 0 = l := by
  by_cases hp : p < l.length
  · refine list_eq (by rw [List.length_set]) fun a => ?_
    rw [getD_set' _ _ _ _ hp]
    split
    · rename_i e; subst e; exact h.symm
    · rfl
  · exact List.set_eq_of_length_le (by omega)
theorem drop_two (b : List Int) (q : Nat) : (b.drop (2 * q)).drop 2 = b.drop (2 * (q + 1)) := by
  rw [List.drop_drop]; congr 1
set_option maxHeartbeats 4000000 in
set_option maxRecDepth 100000 in
theorem ref_Load.st (w : World) (n : Int) {A : Option Addr} {N c : Nat} {bs : List (List Int)} (hr : Kd.C (Kd.slice 5 (Kd.int .u8)) w A N bs) (hb : ∀ b ∈ bs, Bytes b) :
    Calls Try.prog 32 #[.int .i64 n, .slice A N c] w fun e w' => LoadPost w [] (fun g n fi now done => rcnt g n fi now done) n bs e w' := by
  have HR := Aside0.mk hr
  have HB := Aside0.mk hb
  have HL := Aside0.mk hr.1
  clear hr hb
  go_enter Try.func32, Try.ntmps32
  go_wp2_with fail
  refine (ref_New.st (St.start w) n).mono ?_
  intro e w1 hp
  by_cases hn : 32 ≤ n ∧ n ≤ 2048
  · rw [NewPost, if_pos hn] at hp
    obtain ⟨g, rfl, hs⟩ := hp
    have HN := Aside0.mk hn
    obtain ⟨m, rfl⟩ := Int.eq_ofNat_of_zero_le (by omega : 0 ≤ n)
    rw [Int.toNat_natCast] at hs
    have HM := Aside0.mk (show 32 ≤ m ∧ m ≤ 2048 from by omega)
    have HS0 := Aside0.mk hs
    have HPOST := Aside0.mk (fun (e : Ending) (w' : World) => (show LoadPost w [] (fun g n fi now done => rcnt g n fi now done) (m : Int) bs e w' = _ from by unfold LoadPost; rw [if_pos HN.out, Int.toNat_natCast]))
    clear hs hn
    go_wp2_with fail
    refine (ref_Areas.st m HM.out.2 w1).mono ?_
    rintro e w' ⟨rfl, rfl⟩
    obtain ⟨fi, hfi⟩ : ∃ fi, firstOf m = fi := ⟨_, rfl⟩
    rw [hfi] at HS0 HPOST ⊢
    have H32 := Aside0.mk (show 32 ≤ m ∧ fi = firstOf m from ⟨HM.out.1, hfi.symm⟩)
    have HFI := Aside0.mk (show fi < m from by have := HM.out; rw [← hfi]; unfold firstOf areas; omega)
    clear hfi
    obtain ⟨ar, har⟩ : ∃ ar, areas m = ar := ⟨_, rfl⟩
    rw [har]
    have HARE := Aside0.mk har
    have HAR := Aside0.mk (show ar ≤ 18 from by rw [← har]; have := HM.out; unfold areas; omega)
    clear har
    obtain ⟨hp0, A1, c1, A2, c2, hs0⟩ := rcnt_out HS0.out
    obtain ⟨g1, rfl, _⟩ := hs0.swap.row_at 0 (by have := HM.out; omega) 0
    have HS := Aside0.mk hs0
    have HP := Aside0.mk hp0
    have HG1 := Aside0.mk (show w.heap.size ≤ g1 ∧ g1 < w1.heap.size from by
      obtain ⟨F, hF, hp, _⟩ := hs0.swap.out
      exact hF g1 (hp.1 g1 rfl))
    clear hs0 hp0 HS0
    by_cases hN : N = ar
    · subst hN
      obtain ⟨R, hR⟩ : ∃ R, loadR fi m 0 bs (List.replicate m 0) = R := ⟨_, rfl⟩
      have HPO := Aside0.mk (fun (e : Ending) (w' : World) (h : LoadGot w [] (fun g now => rcnt g m fi now now) R e w') => (show LoadPost w [] (fun g n fi now done => rcnt g n fi now done) (m : Int) bs e w' from by rw [HPOST.out, if_pos (by rw [HL.out, HARE.out]), hR]; exact h))
      have HRR := Aside0.mk hR
      clear hR HPOST
      have t0 : ((N : Int) != (N : Int)) = false := by simp
      have HZ := Aside0.mk (fun (t : Nat) (_ : 0 * 118 ≤ t) => (show (List.replicate m (0 : Int)).getD t 0 = 0 from by rw [List.getD_eq_getElem?_getD, List.getElem?_replicate]; split <;> rfl))
      go_wp2_with fail
      go_loopw [10, 11, 12, 13, 14, 15, 16] (fun i _ _ _ _ _ _ wr => ∃ (a : Nat) (now : List Int), i = .int .i64 a ∧ a ≤ N ∧ Aside0 (St w wr [blk g (rCells (some ⟨g1, 0, none⟩) c1 A2 c2 m) 60, row (Kd.int .i64) 3 (.slice (some ⟨g1, 0, none⟩) m c1) now, row (Kd.int .i64) 3 (.slice A2 m c2) (List.replicate m 0)]) ∧ Aside0 (CP m fi now (List.replicate m 0)) ∧ Aside0 (w1.heap.size ≤ wr.heap.size) ∧ Aside0 (∀ t, a * 118 ≤ t → now.getD t 0 = 0) ∧ Aside0 (loadR fi m a (bs.drop a) now = R)) (fun i _ _ _ _ _ _ _ => N - (intOf i).toNat)
      case atStart => exact ⟨0, _, rfl, by omega, HS, HP, ⟨Nat.le_refl _⟩, HZ, HRR⟩
      case round =>
        clear HS HRR HP HZ
        obtain ⟨a, now, rfl, ha, HS, HP, HSZ, HZ, HQ⟩ := hrel
        by_cases hlt : a < N
        · have h1 : decide ((a : Int) < (N : Int)) = true := decide_eq_true (by omega)
          have h2 : (a : Int) < (N : Int) := by omega
          have HLT := Aside0.mk hlt
          have e1 := Aside0.mk (inc_w a (by have := HAR.out; omega))
          obtain ⟨ad, A', c', rfl, hc, hl', hC'⟩ := inner_at HR.out a hlt
          have hbs : bs.drop a = bs.getD a [] :: bs.drop (a + 1) := by
            rw [List.drop_eq_getElem_cons (by rw [HL.out]; exact hlt), List.getD_eq_getElem?_getD, List.getElem?_eq_getElem (by rw [HL.out]; exact hlt)]
            rfl
          have hmem : bs.getD a [] ∈ bs := by
            rw [List.getD_eq_getElem?_getD, List.getElem?_eq_getElem (by rw [HL.out]; exact hlt)]
            exact List.getElem_mem _
          have hBy := HB.out _ hmem
          have hq := HQ.out
          rw [hbs] at hq
          obtain ⟨b, hbb⟩ : ∃ b, bs.getD a [] = b := ⟨_, rfl⟩
          rw [hbb] at hc hl' hC' hBy hq
          have hcw := (HS.out.below.cell (World.block_lt_of_cell? w _ hc)).trans hc
          have HBy := Aside0.mk hBy
          have HL' := Aside0.mk hl'
          have HC' := Aside0.mk hC'
          unfold loadR at hq
          have HA := Aside0.mk (show a < 18 from by have := HAR.out; omega)
          clear hbs hmem hBy hbb hc hl' hC' hlt ha
          by_cases hlen : b.length = 236
          · rw [if_neg (by rw [hlen]; decide)] at hq
            have HQ2 := Aside0.mk hq
            have HLEN := Aside0.mk hlen
            rw [hlen] at hcw
            have HFT := Aside0.mk (show ∀ W', KeepBut wr W' g1 none → Kd.C (Kd.int .u8) W' A' 236 (b.drop (2 * 0)) from Kd.C_foot_came (Kd.heap_int _) (hlen ▸ HC'.out) HS.out.below HG1.out.1)
            clear hq hlen HQ
            have hc236 : (236 : Nat) ≤ c' := by have := HL'.out; rw [HLEN.out] at this; exact this
            have HC236 := Aside0.mk hc236
            clear hc236
            go_wp2_with fail
            clear h1 h2 hcw
            go_loopw [11, 12, 13, 14, 15, 16] (fun v k _ _ _ _ wr2 => ∃ (q cb : Nat) (Ab : Option Addr) (now2 : List Int), k = .int .i64 q ∧ v = .slice Ab (236 - 2 * q) cb ∧ q ≤ 118 ∧ Aside0 (236 - 2 * q ≤ cb) ∧ Aside0 (∀ W', KeepBut wr2 W' g1 none → Kd.C (Kd.int .u8) W' Ab (236 - 2 * q) (b.drop (2 * q))) ∧ Aside0 (St w wr2 [blk g (rCells (some ⟨g1, 0, none⟩) c1 A2 c2 m) 60, row (Kd.int .i64) 3 (.slice (some ⟨g1, 0, none⟩) m c1) now2, row (Kd.int .i64) 3 (.slice A2 m c2) (List.replicate m 0)]) ∧ Aside0 (CP m fi now2 (List.replicate m 0)) ∧ Aside0 (w1.heap.size ≤ wr2.heap.size) ∧ Aside0 (∀ t, a * 118 + q ≤ t → now2.getD t 0 = 0) ∧ Aside0 ((rowR fi m a b q (118 - q) now2).bind (loadR fi m (a + 1) (bs.drop (a + 1))) = R)) (fun _ k _ _ _ _ _ => 118 - (intOf k).toNat)
            case atStart => exact ⟨0, c', A', now, rfl, rfl, by omega, HC236, HFT, HS, HP, HSZ, HZ, HQ2⟩
            case round =>
              clear HS HQ2 HP HSZ HZ HFT
              obtain ⟨q, cb, Ab, now2, rfl, rfl, hq, HCB, HFT, HS, HP, HSZ, HZ, HQ⟩ := hrel
              by_cases hlt : q < 118
              · have h1 : decide ((q : Int) < 118) = true := decide_eq_true (by omega)
                have h2 : (q : Int) < 118 := by omega
                have HLQ := Aside0.mk hlt
                have e2 := Aside0.mk (inc_w q (by omega))
                have hCb := HFT.out wr (KeepBut.refl _ _ _)
                obtain ⟨ys, hys⟩ : ∃ ys, b.drop (2 * q) = ys := ⟨_, rfl⟩
                rw [hys] at hCb
                have hyl := hCb.1
                have hT := refTake_is ys 2 (by rw [← hys]; exact HBy.out.drop _) (by omega)
                rw [takeR_two ys (by omega)] at hT
                have hv : val (ys.take 2) = valK b q := by rw [← hys]; rfl
                have hd2 : ys.drop 2 = b.drop (2 * (q + 1)) := by rw [← hys, drop_two]
                rw [hv, hd2] at hT
                have HT := Aside0.mk hT
                have HCb := Aside0.mk hCb
                have HYL := Aside0.mk hyl
                have hq2 := HQ.out
                rw [show 118 - q = (118 - (q + 1)) + 1 from by omega] at hq2
                unfold rowR at hq2
                have hvr := valK_range HBy.out q
                obtain ⟨x, hx⟩ : ∃ x, valK b q = x := ⟨_, rfl⟩
                rw [hx] at HT hq2 hvr
                have HVR := Aside0.mk hvr
                have h3 : (a : Int) < 18 := by have := HA.out; omega
                obtain ⟨p, hp⟩ : ∃ p, a * 118 + q = p := ⟨_, rfl⟩
                rw [hp] at hq2
                have hpi : (a : Int) * 118 + (q : Int) = (p : Int) := by omega
                have HPI := Aside0.mk hpi
                have HPE := Aside0.mk hp
                have hp3 : (p : Int) < 3000 := by omega
                have hzp := HZ.out p (by omega)
                have HZP := Aside0.mk hzp
                clear hx hyl hT hv hd2 hvr hlt hq hCb hys hzp hp
                have hq3 : (0 : Int) ≤ (q : Int) := Int.natCast_nonneg q
                go_wp2_with fail
                have K := cambiumref01_Take.callsR 20 Ab cb ys 2 _ _ _ wr (HYL.out.symm ▸ HCb.out) (by rw [HYL.out]; exact HCB.out) HT.out
                rw [HYL.out] at K
                refine K.mono ?_
                clear K
                rintro e w5 ⟨v5, rfl, hr5, hb5⟩
                have HS5 := Aside0.mk (HS.out.below_ hb5)
                have HSZ5 := Aside0.mk (Nat.le_trans HSZ.out hb5.size)
                have hdl : (b.drop (2 * (q + 1))).length = 236 - 2 * (q + 1) := by rw [List.length_drop, HLEN.out]
                obtain ⟨A5, c5, he5, hc5, _⟩ := Kd.R_reads hr5
                rw [hdl] at he5 hc5
                subst he5
                have HC5 := Aside0.mk hc5
                have HFT5 := Aside0.mk (show ∀ W', KeepBut w5 W' g1 none → Kd.C (Kd.int .u8) W' A5 (236 - 2 * (q + 1)) (b.drop (2 * (q + 1))) from Kd.C_foot_own (Kd.R_bound hr5) (fun k hk e => by have h8 := hk.2.1; have h9 := HG1.out.2; have h10 := HSZ.out; omega))
                have HZ5 := Aside0.mk (fun (t : Nat) (ht : a * 118 + (q + 1) ≤ t) => HZ.out t (by omega))
                obtain ⟨k0, _⟩ := rcnt_cells HS5.out
                clear hb5 HS hr5 hc5 hdl HZ
                go_upto_region 19 with fail
                (try rw [HPI.out])
                clear hpi h2 h1
                by_cases hpm : p < m
                · have t5 : (p : Int) < (m : Int) := by omega
                  have t6 : decide ((p : Int) < (m : Int)) = true := decide_eq_true t5
                  have t3 : ¬ (m : Int) ≤ (p : Int) := by omega
                  have t4 : decide ((p : Int) ≥ (m : Int)) = false := decide_eq_false (by omega)
                  obtain ⟨gx, hgx, hc7, hf7, hset⟩ := HS5.out.swap.row_at p hpm 0
                  injection hgx with hgx
                  injection hgx with hgx
                  subst hgx
                  have HSET := Aside0.mk (hset x)
                  have HPS := Aside0.mk (HP.out.set p x HVR.out)
                  have HFT6 := Aside0.mk (Kd.C_foot_step HFT5.out ((KeepBut.refl w5 g1 none).set_ p (.int .i64 x)))
                  have HSZ6 := Aside0.mk (show w1.heap.size ≤ (w5.setCell ⟨g1, p, none⟩ (.int .i64 x)).heap.size from by simpa using HSZ5.out)
                  have HPM := Aside0.mk hpm
                  clear hset hpm
                  by_cases hx0 : x = 0
                  · subst hx0
                    rw [if_pos rfl] at hq2
                    have HQ3 := Aside0.mk hq2
                    have HSE := Aside0.mk (set_zero HZP.out)
                    clear hq2
                    go_wp2_with fail
                    exact ⟨⟨q + 1, c5, A5, now2, by first | rfl | rw [e2.out], rfl, HLQ.out, HC5, HFT6, ⟨by have h9 := HSET.out.swap; rw [HSE.out] at h9; exact h9⟩, HP, HSZ6, HZ5, HQ3⟩, meas_w q 118 HLQ.out _ (by first | rfl | exact e2.out)⟩
                  · rw [if_neg hx0] at hq2
                    have hx1 : (x == 0) = false := by simp [hx0]
                    have hx2 : (x != 0) = true := by simp [hx0]
                    clear hx0
                    by_cases hb1 : p < fi
                    · rw [if_pos (Or.inl hb1)] at hq2
                      have HE := Aside0.mk (show R = none from hq2.symm)
                      have t1 : (p : Int) < (fi : Int) := by omega
                      have t2 : decide ((p : Int) < (fi : Int)) = true := decide_eq_true t1
                      clear hq2 hb1
                      go_wp2
                      go_ret2
                      exact HPO.out _ _ (by rw [HE.out]; exact ⟨rfl, noParts HS5.out⟩)
                    · rw [if_neg (by have := HPM.out; omega)] at hq2
                      have HQ3 := Aside0.mk hq2
                      have t1 : ¬ (p : Int) < (fi : Int) := by omega
                      have t2 : decide ((p : Int) < (fi : Int)) = false := decide_eq_false t1
                      have HZ6 := Aside0.mk (fun (t : Nat) (ht : a * 118 + (q + 1) ≤ t) => (show (now2.set p x).getD t 0 = 0 from by rw [getD_set' _ _ _ _ (by rw [HP.out.ln]; exact HPM.out), if_neg (by have := HPE.out; omega)]; exact HZ5.out t ht))
                      clear hq2 hb1
                      go_wp2_with fail
                      exact ⟨⟨q + 1, c5, A5, _, by first | rfl | rw [e2.out], rfl, HLQ.out, HC5, HFT6, ⟨HSET.out.swap⟩, HPS, HSZ6, HZ6, HQ3⟩, meas_w q 118 HLQ.out _ (by first | rfl | exact e2.out)⟩
                · have t5 : ¬ (p : Int) < (m : Int) := by omega
                  have t6 : decide ((p : Int) < (m : Int)) = false := decide_eq_false t5
                  have t3 : (m : Int) ≤ (p : Int) := by omega
                  have t4 : decide ((p : Int) ≥ (m : Int)) = true := decide_eq_true (by omega)
                  by_cases hx0 : x = 0
                  · subst hx0
                    rw [if_pos rfl] at hq2
                    have HQ3 := Aside0.mk hq2
                    clear hq2 hpm
                    go_wp2_with fail
                    exact ⟨⟨q + 1, c5, A5, now2, by first | rfl | rw [e2.out], rfl, HLQ.out, HC5, HFT5, HS5, HP, HSZ5, HZ5, HQ3⟩, meas_w q 118 HLQ.out _ (by first | rfl | exact e2.out)⟩
                  · rw [if_neg hx0, if_pos (Or.inr (by omega))] at hq2
                    have HE := Aside0.mk (show R = none from hq2.symm)
                    have hx1 : (x == 0) = false := by simp [hx0]
                    have hx2 : (x != 0) = true := by simp [hx0]
                    have t1 : ¬ (p : Int) < (fi : Int) := by have := HFI.out; omega
                    have t2 : decide ((p : Int) < (fi : Int)) = false := decide_eq_false t1
                    clear hq2 hpm hx0
                    go_wp2
                    go_ret2
                    exact HPO.out _ _ (by rw [HE.out]; exact ⟨rfl, noParts HS5.out⟩)
              · obtain rfl : q = 118 := by omega
                have HQ4 := Aside0.mk (show loadR fi m (a + 1) (bs.drop (a + 1)) now2 = R from HQ.out)
                have HZ7 := Aside0.mk (fun (t : Nat) (ht : (a + 1) * 118 ≤ t) => HZ.out t (by omega))
                clear hlt hq HQ
                go_wp2_with fail
                exact ⟨⟨a + 1, now2, by rw [e1.out], HLT.out, HS, HP, HSZ, HZ7, HQ4⟩, meas_w a N HLT.out _ e1.out⟩
          · rw [if_pos hlen] at hq
            have HE := Aside0.mk (show R = none from hq.symm)
            have t1 : ((b.length : Int) == 236) = false := by simp; omega
            have t2 : ((b.length : Int) != 236) = true := by simp; omega
            clear hq hlen
            go_wp2
            go_ret2
            exact HPO.out _ _ (by rw [HE.out]; exact ⟨rfl, noParts HS.out⟩)
        · obtain rfl : a = N := by omega
          have hq := HQ.out
          rw [List.drop_of_length_le (by rw [HL.out]; exact Nat.le_refl _)] at hq
          have HE := Aside0.mk (show R = some now from hq.symm)
          have HSI := Aside0.mk (rcnt_in' HP.out H32.out HS.out)
          clear hq HQ ha
          go_wp2_with fail
          refine (ref_Commit.st HSI.out).mono ?_
          rintro e w5 ⟨rfl, hs⟩
          have HS5 := Aside0.mk hs
          clear hs HS
          go_wp2
          go_ret2
          exact HPO.out _ _ (by rw [HE.out]; exact ⟨g, rfl, HS5.out⟩)
    · have t1 : ((N : Int) == (ar : Int)) = false := by simp; omega
      have t2 : ((N : Int) != (ar : Int)) = true := by simp; omega
      have t3 : (N != ar) = true := by simp [hN]
      have t4 : (N == ar) = false := by simp [hN]
      have HNN := Aside0.mk hN
      clear hN
      go_wp2
      go_ret2
      rw [HPOST.out, if_neg (by rw [HL.out, HARE.out]; exact HNN.out)]
      exact ⟨rfl, noParts HS.out⟩
  · rw [NewPost, if_neg hn] at hp
    obtain ⟨rfl, hs⟩ := hp
    have HS := Aside0.mk hs
    have HN := Aside0.mk hn
    clear hs hn
    go_wp2
    go_ret2
    unfold LoadPost
    rw [if_neg HN.out]
    exact ⟨rfl, HS.out⟩
end Go.Proofs.Ytinhiigkfabcfaa.P
