/- Counts of bodies, walked. -/
import Derived.Test.YtinhiigkfabcfaaCnt5
namespace Go.Proofs.Ytinhiigkfabcfaa.P
open Go.RowKit Go.Proofs.YtinhiigkfabcfaaW.PrintWords Go.Proofs.YtinhiigkfabcfaaW.PrintLast Go.Proofs.YtinhiigkfabcfaaW.PrintMore Go.Proofs.Ytinhiigkfabcfaa.Sep Go.Proofs.Ytinhiigkfabcfaa.NumLem
set_option linter.unusedVariables false
attribute [local go_sem] max2_int min2_int max_two min_two max_three min_three max_four min_four
/-- What reading counts leaves. -/
def LoadGot (w0 : World) (ps : List HP) (C : Nat → List Int → HP) (R : Option (List Int)) (e : Ending) (w' : World) : Prop :=
  match R with
  | some now => ∃ g : Nat, e = .returned (.tuple #[.pointer (some ⟨g, 0, none⟩), .int .i64 0]) ∧ St w0 w' (C g now :: ps)
  | none => e = .returned (.tuple #[.pointer none, .int .i64 3]) ∧ St w0 w' ps
def LoadPost (w0 : World) (ps : List HP) (C : Nat → Nat → Nat → List Int → List Int → HP) (n : Int) (bs : List (List Int)) (e : Ending) (w' : World) : Prop :=
  if 32 ≤ n ∧ n ≤ 2048 then LoadGot w0 ps (fun g now => C g n.toNat (firstOf n.toNat) now now) (if bs.length = areas n.toNat then loadR (firstOf n.toNat) n.toNat 0 bs (List.replicate n.toNat 0) else none) e w'
  else e = .returned (.tuple #[.pointer none, .int .i64 1]) ∧ St w0 w' ps
theorem noParts {w0 w : World} {ps : List HP} (h : St w0 w ps) : St w0 w [] := ⟨h.below, trivial⟩
theorem takeR_two (l : List Int) (h : 2 ≤ l.length) : takeR l 2 = (val (l.take 2), l.drop 2, 0) := by
  unfold takeR
  rw [if_neg (by omega), if_neg (by omega)]
  rfl
theorem valK_range {b : List Int} (hb : Bytes b) (k : Nat) : 0 ≤ valK b k ∧ valK b k ≤ 65535 := by
  have h := val_range _ ((hb.drop (2 * k)).take 2)
  have h2 : ((b.drop (2 * k)).take 2).length ≤ 2 := by rw [List.length_take]; omega
  have h3 := pow256 h2
  unfold valK
  have : (256 : Int) ^ 2 = 65536 := rfl
  omega
theorem inner_at {w : World} {A : Option Addr} {N : Nat} {bs : List (List Int)} (hr : Kd.C (Kd.slice 5 (Kd.int .u8)) w A N bs) (i : Nat) (hi : i < N) :
    ∃ ad A' c', A = some ad ∧ w.cell? (ad.add i) = some (.slice A' (bs.getD i []).length c') ∧ (bs.getD i []).length ≤ c' ∧ Kd.C (Kd.int .u8) w A' (bs.getD i []).length (bs.getD i []) := by
  obtain ⟨ad, c, hA, hcl, hK, hcs⟩ := Kd.C_get hr [] (i : Int) (by omega) (by omega)
  rw [Int.toNat_natCast] at hK hcs
  obtain ⟨A', c', rfl, hl, hC⟩ := hK
  have := hcs 0 _ rfl
  rw [show i * (Kd.slice 5 (Kd.int .u8)).sz + 0 = i from by show i * 1 + 0 = i; omega] at this
  exact ⟨ad, A', c', hA, this, hl, hC⟩
set_option maxHeartbeats 4000000 in
set_option maxRecDepth 100000 in
theorem counts_Load.st (w : World) (n : Int) {A : Option Addr} {N c : Nat} {bs : List (List Int)} (hr : Kd.C (Kd.slice 5 (Kd.int .u8)) w A N bs) (hb : ∀ b ∈ bs, Bytes b) :
    Calls Try.prog 31 #[.int .i64 n, .slice A N c] w fun e w' => LoadPost w [] (fun g n fi now done => cnt g n (areas n) fi now done) n bs e w' := by
  have HR := Aside0.mk hr
  have HB := Aside0.mk hb
  have HL := Aside0.mk hr.1
  clear hr hb
  go_enter Try.func31, Try.ntmps31
  go_wp2_with fail
  refine (counts_New.st (St.start w) n).mono ?_
  intro e w1 hp
  by_cases hn : 32 ≤ n ∧ n ≤ 2048
  · rw [NewPost, if_pos hn] at hp
    obtain ⟨g, rfl, hs⟩ := hp
    have HN := Aside0.mk hn
    obtain ⟨m, rfl⟩ := Int.eq_ofNat_of_zero_le (by omega : 0 ≤ n)
    rw [Int.toNat_natCast] at hs
    have HM := Aside0.mk (show 32 ≤ m ∧ m ≤ 2048 from by omega)
    have HS := Aside0.mk hs
    have HPOST := Aside0.mk (fun (e : Ending) (w' : World) => (show LoadPost w [] (fun g n fi now done => cnt g n (areas n) fi now done) (m : Int) bs e w' = _ from by unfold LoadPost; rw [if_pos HN.out, Int.toNat_natCast]))
    clear hs hn
    obtain ⟨fi, hfi⟩ : ∃ fi, firstOf m = fi := ⟨_, rfl⟩
    rw [hfi] at HS HPOST
    have HFI := Aside0.mk (show fi < m from by have := HM.out; rw [← hfi]; unfold firstOf areas; omega)
    clear hfi
    obtain ⟨ar, har⟩ : ∃ ar, areas m = ar := ⟨_, rfl⟩
    rw [har] at HS
    have HARE := Aside0.mk har
    have HAR := Aside0.mk (show ar ≤ 18 from by rw [← har]; have := HM.out; unfold areas; omega)
    clear har
    obtain ⟨hp0, A1, c1, A2, c2, hs0⟩ := cnt_out HS.out
    obtain ⟨k0, k1, k2, k3⟩ := cnt_cells hs0
    clear hs0 hp0 k0 k1 k3
    by_cases hN : N = ar
    · subst hN
      obtain ⟨R, hR⟩ : ∃ R, loadR fi m 0 bs (List.replicate m 0) = R := ⟨_, rfl⟩
      have HPO := Aside0.mk (fun (e : Ending) (w' : World) (h : LoadGot w [] (fun g now => cnt g m N fi now now) R e w') => (show LoadPost w [] (fun g n fi now done => cnt g n (areas n) fi now done) (m : Int) bs e w' from by rw [HPOST.out, if_pos (by rw [HL.out, HARE.out]), hR]; show LoadGot w [] (fun g now => cnt g m (areas m) fi now now) R e w'; rw [HARE.out]; exact h))
      have HRR := Aside0.mk hR
      clear hR HPOST
      have hmm : ((m : Int) = (m : Int)) := rfl
      have t0 : ((N : Int) != (N : Int)) = false := by simp
      go_wp2_with fail
      clear k2
      go_loopw [8, 9, 10, 11, 12, 13, 14, 34] (fun _ _ _ _ _ _ _ i wr => ∃ (a : Nat) (now : List Int), i = .int .i64 a ∧ a ≤ N ∧ Aside0 (St w wr [cnt g m N fi now (List.replicate m 0)]) ∧ Aside0 (loadR fi m a (bs.drop a) now = R)) (fun _ _ _ _ _ _ _ i _ => N - (intOf i).toNat)
      case atStart => exact ⟨0, _, rfl, by omega, HS, HRR⟩
      case round =>
        clear HS HRR
        obtain ⟨a, now, rfl, ha, HS, HQ⟩ := hrel
        by_cases hlt : a < N
        · have h1 : decide ((a : Int) < (N : Int)) = true := decide_eq_true (by omega)
          have h2 : (a : Int) < (N : Int) := by omega
          have HLT := Aside0.mk hlt
          have e1 := Aside0.mk (inc_w a (by have := HAR.out; omega))
          obtain ⟨ad, A', c', rfl, hc, hl', hC'⟩ := inner_at HR.out a hlt
          have hbs : bs.drop a = bs.getD a [] :: bs.drop (a + 1) := by
            rw [List.drop_eq_getElem_cons (by rw [HL.out]; exact hlt), List.getD_eq_getElem?_getD, List.getElem?_eq_getElem (by rw [HL.out]; exact hlt)]
            rfl
          have hmem : bs.getD a [] ∈ bs := by
            rw [List.getD_eq_getElem?_getD, List.getElem?_eq_getElem (by rw [HL.out]; exact hlt)]
            exact List.getElem_mem _
          have hBy := HB.out _ hmem
          have hq := HQ.out
          rw [hbs] at hq
          obtain ⟨b, hbb⟩ : ∃ b, bs.getD a [] = b := ⟨_, rfl⟩
          rw [hbb] at hc hl' hC' hBy hq
          have hcw := (HS.out.below.cell (World.block_lt_of_cell? w _ hc)).trans hc
          have HBy := Aside0.mk hBy
          have HL' := Aside0.mk hl'
          have HC' := Aside0.mk hC'
          unfold loadR at hq
          have HA := Aside0.mk (show a < 18 from by have := HAR.out; omega)
          clear hbs hmem hBy hbb hc hl' hC' hlt ha
          by_cases hlen : b.length = 236
          · rw [if_neg (by rw [hlen]; decide)] at hq
            have HQ2 := Aside0.mk hq
            have HLEN := Aside0.mk hlen
            rw [hlen] at hcw
            clear hq hlen HQ
            go_wp2_with fail
            clear h1 h2 hcw
            go_loopw [10, 11, 12, 13, 14, 42] (fun _ _ _ _ _ k wr2 => ∃ (q : Nat) (now2 : List Int), k = .int .i64 q ∧ q ≤ 118 ∧ Aside0 (St w wr2 [cnt g m N fi now2 (List.replicate m 0)]) ∧ Aside0 ((rowR fi m a b q (118 - q) now2).bind (loadR fi m (a + 1) (bs.drop (a + 1))) = R)) (fun _ _ _ _ _ k _ => 118 - (intOf k).toNat)
            case atStart => exact ⟨0, now, rfl, by omega, HS, HQ2⟩
            case round =>
              clear HS HQ2
              obtain ⟨q, now2, rfl, hq, HS, HQ⟩ := hrel
              by_cases hlt : q < 118
              · have h1 : decide ((q : Int) < 118) = true := decide_eq_true (by omega)
                have h2 : (q : Int) < 118 := by omega
                have HLQ := Aside0.mk hlt
                have e2 := Aside0.mk (inc_w q (by omega))
                obtain ⟨A3, ys, HY, hcut, HY2, HY3⟩ := Own.cut_drop (P := Try.prog) (Kd.int .u8) 52 5 .i64 Try.underlying52 (by kernel_rfl) (w := w) (A := A') (c := c') (xs := b) HC'.out HL'.out (2 * q) (by rw [HLEN.out]; omega)
                rw [HLEN.out, show ((2 * q : Nat) : Int) = 2 * (q : Int) from by omega] at hcut
                have hyl : ys.length = 236 - 2 * q := by rw [HY.out, List.length_drop, HLEN.out]
                have hT := Take_is ys 2 (by rw [HY.out]; exact HBy.out.drop _) (by omega)
                rw [takeR_two ys (by omega)] at hT
                have hv : val (ys.take 2) = valK b q := by rw [HY.out]; rfl
                rw [hv] at hT
                have HT := Aside0.mk hT
                have hq2 := HQ.out
                rw [show 118 - q = (118 - (q + 1)) + 1 from by omega] at hq2
                unfold rowR at hq2
                have hvr := valK_range HBy.out q
                obtain ⟨x, hx⟩ : ∃ x, valK b q = x := ⟨_, rfl⟩
                rw [hx] at HT hq2 hvr
                have HVR := Aside0.mk hvr
                have h3 : (a : Int) < 18 := by have := HA.out; omega
                have HX := Aside0.mk hx
                clear hx hyl hT hv hvr hlt hq
                have hq3 : (0 : Int) ≤ (q : Int) := Int.natCast_nonneg q
                go_wp2_with fail
                refine (num_Take.calls A3 (c' - 2 * q) ys 2 _ _ _ wr (Kd.C_below HY2.out HS.out.below) HY3.out HT.out).mono ?_
                rintro e w5 ⟨v5, rfl, _, hb5⟩
                have HS5 := Aside0.mk (HS.out.below_ hb5)
                clear hb5 HS hcut
                by_cases hx0 : x = 0
                · subst hx0
                  rw [if_pos rfl] at hq2
                  have HQ3 := Aside0.mk hq2
                  clear hq2 h1 h2
                  go_wp2_with fail
                  exact ⟨⟨q + 1, now2, by rw [e2.out], HLQ.out, HS5, HQ3⟩, meas_w q 118 HLQ.out _ e2.out⟩
                · rw [if_neg hx0] at hq2
                  have hx1 : (x == 0) = false := by simp [hx0]
                  obtain ⟨hp5, A5, c5, A6, c6, hs5⟩ := cnt_out HS5.out
                  obtain ⟨k0, k1, k2, k3⟩ := cnt_cells hs5
                  have HS6 := Aside0.mk hs5
                  have HP5 := Aside0.mk hp5
                  obtain ⟨p, hp⟩ : ∃ p, a * 118 + q = p := ⟨_, rfl⟩
                  rw [hp] at hq2
                  have hpi : (a : Int) * 118 + (q : Int) = (p : Int) := by omega
                  have HPI := Aside0.mk hpi
                  have hp3 : (p : Int) < 3000 := by have := HA.out; have := HLQ.out; omega
                  clear hs5 hp5 hp k1 k2 hx0
                  by_cases hbad : p < fi ∨ m ≤ p
                  · rw [if_pos hbad] at hq2
                    have HE := Aside0.mk (show R = none from hq2.symm)
                    clear hq2 h1
                    by_cases hb1 : p < fi
                    · have t1 : (a : Int) * 118 + (q : Int) < (fi : Int) := by omega
                      have t2 : decide ((a : Int) * 118 + (q : Int) < (fi : Int)) = true := decide_eq_true t1
                      clear hpi hbad
                      go_wp2
                      go_ret2
                      exact HPO.out _ _ (by rw [HE.out]; exact ⟨rfl, (noParts HS5.out)⟩)
                    · have t1 : ¬ (a : Int) * 118 + (q : Int) < (fi : Int) := by omega
                      have t2 : decide ((a : Int) * 118 + (q : Int) < (fi : Int)) = false := decide_eq_false t1
                      have t3 : (m : Int) ≤ (a : Int) * 118 + (q : Int) := by omega
                      have t4 : decide ((a : Int) * 118 + (q : Int) ≥ (m : Int)) = true := decide_eq_true t3
                      clear hpi hbad
                      go_wp2
                      go_ret2
                      exact HPO.out _ _ (by rw [HE.out]; exact ⟨rfl, (noParts HS5.out)⟩)
                  · rw [if_neg hbad] at hq2
                    have HQ3 := Aside0.mk hq2
                    have t1 : ¬ (p : Int) < (fi : Int) := by omega
                    have t2 : decide ((p : Int) < (fi : Int)) = false := decide_eq_false t1
                    have t3 : ¬ (m : Int) ≤ (p : Int) := by omega
                    have t4 : decide ((p : Int) ≥ (m : Int)) = false := decide_eq_false (by omega)
                    have t5 : (p : Int) < (m : Int) := by omega
                    obtain ⟨g5, rfl, hc5, hf5, hset⟩ := HS6.out.swap.row_at p (by omega) 0
                    have HSET := Aside0.mk (hset x)
                    have HPS := Aside0.mk (HP5.out.set p x HVR.out)
                    clear hq2 hbad hset h1 hpi
                    go_upto_region 17 with fail
                    rw [HPI.out]
                    clear h2
                    go_wp2_with fail
                    exact ⟨⟨q + 1, _, by rw [e2.out], HLQ.out, ⟨cnt_in HPS.out HSET.out.swap⟩, HQ3⟩, meas_w q 118 HLQ.out _ e2.out⟩
              · obtain rfl : q = 118 := by omega
                have HQ4 := Aside0.mk (show loadR fi m (a + 1) (bs.drop (a + 1)) now2 = R from HQ.out)
                clear hlt hq HQ
                go_wp2_with fail
                exact ⟨⟨a + 1, now2, by rw [e1.out], HLT.out, HS, HQ4⟩, meas_w a N HLT.out _ e1.out⟩
          · rw [if_pos hlen] at hq
            have HE := Aside0.mk (show R = none from hq.symm)
            have t1 : ((b.length : Int) == 236) = false := by simp; omega
            have t2 : ((b.length : Int) != 236) = true := by simp; omega
            clear hq hlen
            go_wp2
            go_ret2
            exact HPO.out _ _ (by rw [HE.out]; exact ⟨rfl, (noParts HS.out)⟩)
        · obtain rfl : a = N := by omega
          have hq := HQ.out
          rw [List.drop_of_length_le (by rw [HL.out]; exact Nat.le_refl _)] at hq
          have HE := Aside0.mk (show R = some now from hq.symm)
          clear hq HQ ha
          go_wp2_with fail
          refine (counts_Commit.st HS.out).mono ?_
          rintro e w5 ⟨rfl, hs⟩
          have HS5 := Aside0.mk hs
          clear hs HS
          go_wp2
          go_ret2
          exact HPO.out _ _ (by rw [HE.out]; exact ⟨g, rfl, HS5.out⟩)
    · have t1 : ((N : Int) == (ar : Int)) = false := by simp; omega
      have t2 : ((N : Int) != (ar : Int)) = true := by simp; omega
      have t3 : (N != ar) = true := by simp [hN]
      have t4 : (N == ar) = false := by simp [hN]
      have HNN := Aside0.mk hN
      clear hN
      go_wp2
      go_ret2
      rw [HPOST.out, if_neg (by rw [HL.out, HARE.out]; exact HNN.out)]
      exact ⟨rfl, (noParts HS.out)⟩
  · rw [NewPost, if_neg hn] at hp
    obtain ⟨rfl, hs⟩ := hp
    have HS := Aside0.mk hs
    have HN := Aside0.mk hn
    clear hs hn
    go_wp2
    go_ret2
    unfold LoadPost
    rw [if_neg HN.out]
    exact ⟨rfl, HS.out⟩
end Go.Proofs.Ytinhiigkfabcfaa.P
