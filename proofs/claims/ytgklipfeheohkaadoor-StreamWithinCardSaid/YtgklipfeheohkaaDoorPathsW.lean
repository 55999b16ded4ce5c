/- The law StreamPaths (its narrowed form), walked. -/
import Derived.Test.YtgklipfeheohkaaDoorCutR
import Derived.Test.YtgklipfeheohkaaDoorRows
import Derived.Test.YtgklipfeheohkaaDoorPx8
namespace Go.Proofs.YtgklipfeheohkaaDoor.P
open Go.RowKit Go.Proofs.YtgklipfeheohkaaDoorW.PrintWords Go.Proofs.YtgklipfeheohkaaDoorW.PrintLast Go.Proofs.YtgklipfeheohkaaDoorW.PrintMore Go.Proofs.YtgklipfeheohkaaDoor.Sep
set_option linter.unusedVariables false
theorem joinTail_cons (x : List UInt8) (r : List (List UInt8)) : Lib.joinTail [47] (x :: r) = (47 :: x) ++ Lib.joinTail [47] r := rfl
theorem refGlue_l0 (l : List ByteArray) (hl : l.length ≤ 1000) : ∀ (n j k : Nat) (acc : ByteArray), 1 ≤ j → l.length - j ≤ n → j ≤ l.length → n < k → acc.size + (l.length - j) + Bulk.total (l.drop j) ≤ 1099511627776 →
    cambiumref19_Glue.l0 k l acc (j : Int) = some (acc ++ asB (Lib.joinTail [47] ((l.drop j).map (·.data.toList))))
  | _, _, 0, _, _, _, _, h, _ => absurd h (Nat.not_lt_zero _)
  | n, j, k + 1, acc, h1, hn, hj, hk, hz => by
    unfold cambiumref19_Glue.l0
    by_cases hlt : j < l.length
    · obtain ⟨m, rfl⟩ : ∃ m, n = m + 1 := ⟨n - 1, by omega⟩
      have hd := List.drop_eq_getElem_cons hlt
      rw [hd, Bulk.total_cons] at hz
      have hs : ((acc ++ (⟨#[47]⟩ : ByteArray)) ++ l[j]).size = acc.size + 1 + l[j].size := by
        rw [ByteArray.size_append, ByteArray.size_append]
        rfl
      have hs1 : (acc ++ (⟨#[47]⟩ : ByteArray)).size = acc.size + 1 := by rw [ByteArray.size_append]; rfl
      rw [if_pos (Int.ofNat_lt.2 hlt), if_pos (show (j : Int) > 0 by omega), if_pos (by omega), if_pos (Int.natCast_nonneg j), rd_at l j hlt, if_pos (by omega), wr_ j (by omega)]
      rw [refGlue_l0 l hl m (j + 1) k _ (by omega) (by omega) hlt (by omega) (by rw [hs]; omega)]
      congr 1
      refine data_inj ?_
      rw [hd, List.map_cons, joinTail_cons]
      generalize Lib.joinTail [47] ((l.drop (j + 1)).map (·.data.toList)) = R
      simp [ByteArray.data_append, asB]
    · rw [if_neg (by omega), List.drop_eq_nil_of_le (by omega)]
      congr 1
      refine data_inj ?_
      simp [ByteArray.data_append, asB, Lib.joinTail]
theorem refGlue_is (l : List ByteArray) (hl : l.length ≤ 1000) (hz : Bulk.total l ≤ 1048576) : cambiumref19_Glue.f 3000 l = some (gluR l) := by
  unfold cambiumref19_Glue.f
  cases l with
  | nil => rfl
  | cons a r =>
    rw [List.length_cons] at hl
    rw [Bulk.total_cons] at hz
    rw [show (3000 : Nat) = 2999 + 1 from rfl, cambiumref19_Glue.l0]
    have h0 : rdOf ByteArray.empty (a :: r) 0 = a := rfl
    have he : (⟨#[]⟩ : ByteArray) ++ a = a := by
      refine data_inj ?_
      rw [ByteArray.data_append, Array.toList_append]
      rfl
    have hs : (⟨#[]⟩ : ByteArray).size = 0 := rfl
    rw [if_pos (by rw [List.length_cons]; omega), if_neg (by omega), if_pos (by omega), h0, if_pos (by omega), he, show wrap64 (0 + 1) = ((1 : Nat) : Int) from by unfold wrap64; omega]
    have := refGlue_l0 (a :: r) (by rw [List.length_cons]; omega) r.length 1 2999 a (Nat.le_refl _) (by rw [List.length_cons]; omega) (by rw [List.length_cons]; omega) (by omega) (by rw [List.length_cons]; simp only [List.drop_succ_cons, List.drop_zero]; omega)
    rw [this]
    congr 1
    refine data_inj ?_
    unfold gluR
    rw [List.map_cons, Lib.join_cons]
    simp [ByteArray.data_append, asB]
theorem glu_le (l : List ByteArray) : (gluR l).size ≤ l.length + Bulk.total l := by
  cases l with
  | nil => exact Nat.zero_le _
  | cons a r => rw [glu_total, Bulk.total_cons, List.length_cons]; omega
theorem glueImpl_is (l : List ByteArray) (hl : l.length ≤ 1000) (hz : Bulk.total l ≤ 1048576) : stream_Glue.f l = some (gluR l) := by
  unfold stream_Glue.f
  have := glu_le l
  rw [if_pos ⟨by omega, by omega⟩]
set_option maxHeartbeats 16000000 in
set_option maxRecDepth 100000 in
theorem StreamPaths_law (z0n : ByteArray) (z1A : Option Addr) (z1c : Nat) (z1l : (List ByteArray)) (w : World) (h0 : Aside0 (z0n.size ≤ maxLen)) (h1 : Aside0 (z1l.length ≤ z1c ∧ Kd.C Kd.string w z1A z1l.length z1l ∧ (z1l.length ≤ maxLen ∧ ∀ y0_ ∈ z1l, y0_.size ≤ maxLen))) (hL : Aside0 (laidMetH Tryd.prog Rows.streamPathsUptoRow.laid w)) (hS : Aside0 (w.ShapedOpen Tryd.prog)) (hU : Aside0 (z0n.size + Bulk.total z1l ≤ 1048576)) :
    Calls Tryd.prog 3 #[.string z0n, .slice z1A z1l.length z1c] w fun e w' => e = .returned (.bool true) ∧ Below w.heap.size w w' := by
  have K1 := Aside0.mk (cambiumlaw19_shown.calls 300 true w shown19_is)
  obtain ⟨h11, h12, _⟩ := h1.out
  obtain ⟨q1, q2, q3⟩ := few_row z1A z1c z1l w h12 h11
  have ht := Bulk.total_take z1l 30
  have hU' := hU.out
  have hl1 := cutR_len z0n
  obtain ⟨⟨r1, r2⟩, hr⟩ : ∃ r, cutR z0n = r := ⟨_, rfl⟩
  rw [hr] at hl1
  have HI := Aside0.mk (show stream_Cut.f z0n = some (r1, r2) by unfold stream_Cut.f; rw [hr])
  have HF := Aside0.mk (show cambiumref19_Cut.f 2000 z0n = some (r1, r2) by rw [refCut_is _ _ (Nat.le_refl _), hr])
  have HSS := Aside0.mk (show cambiumref14_SameNames.f 2000 r1 r1 = some true by rw [same_is _ _ hl1, decide_eq_true rfl])
  obtain ⟨L, hL⟩ : ∃ L, z1l.take 30 = L := ⟨_, rfl⟩
  rw [hL] at q1 q2 q3 ht
  have HC := Aside0.mk q1
  have HCC := Aside0.mk q2
  have HLE := Aside0.mk q3
  have HG1 := Aside0.mk (glueImpl_is L (by omega) (by omega))
  have HG2 := Aside0.mk (refGlue_is L (by omega) (by omega))
  have hcutfact : (30 < z1l.length ∧ L.length = 30) ∨ (¬ 30 < z1l.length ∧ L = z1l) := by
    by_cases h : 30 < z1l.length
    · exact Or.inl ⟨h, by rw [← hL, List.length_take]; omega⟩
    · exact Or.inr ⟨h, by rw [← hL, List.take_of_length_le (by omega)]⟩
  obtain ⟨i, hi, _⟩ := info_parts info_str
  have HCUT := Aside0.mk (fun h : 30 ≤ z1l.length => cut_to (P := Tryd.prog) 22 9 .i64 Tryd.underlying22 hi z1A z1l.length z1c (30 : Int) (by omega) (by omega) h11)
  clear h0 h1 hL hS hU hU' h11 h12 ht hl1 hr q1 q2 q3 hi
  go_enter Tryd.func3, Tryd.ntmps3
  go_wp2_with fail
  refine K1.out.mono ?_
  rintro e w1 ⟨rfl, hb⟩
  have HB1 := Aside0.mk hb
  have HC1 := Aside0.mk (Kd.C_below HC.out hb)
  clear hb K1 HC
  rcases hcutfact with ⟨h30, hL30⟩ | ⟨h30, rfl⟩
  · have d1 : decide (30 < (z1l.length : Int)) = true := decide_eq_true (by omega)
    have d2 : decide (30 < z1l.length) = true := decide_eq_true h30
    have hcut := HCUT.out (by omega)
    rw [show (30 : Int).toNat = L.length from hL30.symm] at hcut
    clear h30 hL30 HCUT
    go_wp2_with fail
    refine (stream_Cut.calls z0n r1 r2 w1 HI.out).mono ?_
    rintro e w2 ⟨v, rfl, hq, hb⟩
    obtain ⟨A2, c2, rfl, hcc, hC⟩ := Kd.R_reads hq
    have HA := Aside0.mk hC
    have HAC := Aside0.mk hcc
    have HB2 := Aside0.mk hb
    clear hq hC hcc hb
    go_wp2_with fail
    refine (cambiumref19_Cut.calls 2000 z0n r1 r2 w2 HF.out).mono ?_
    rintro e w3 ⟨v, rfl, hq, hb⟩
    obtain ⟨A3, c3, rfl, hcc, hC⟩ := Kd.R_reads hq
    have HD := Aside0.mk hC
    have HDC := Aside0.mk hcc
    have HA3 := Aside0.mk (Kd.C_below HA.out hb)
    have HB3 := Aside0.mk (below_step HB2.out hb)
    clear hq hC hcc hb
    go_wp2_with fail
    refine (cambiumref14_SameNames.calls 2000 A2 c2 r1 A3 c3 r1 true w3 HA3.out HAC.out HD.out HDC.out HSS.out).mono ?_
    rintro e w4 ⟨rfl, hd⟩
    have HB4 := Aside0.mk (below_step HB3.out hd.below)
    clear hd
    go_wp2_with fail
    refine (stream_Glue.calls z1A z1c L (gluR L) w4 (Kd.C_below HC1.out HB4.out) HCC.out HG1.out).mono ?_
    rintro e w5 ⟨rfl, hb⟩
    have HB5 := Aside0.mk (below_step HB4.out hb)
    clear hb
    go_wp2_with fail
    refine (cambiumref19_Glue.calls 3000 z1A z1c L (gluR L) w5 (Kd.C_below HC1.out HB5.out) HCC.out HG2.out).mono ?_
    rintro e w6 ⟨rfl, hd⟩
    have HB6 := Aside0.mk (below_step HB1.out (below_step HB5.out hd.below))
    clear hd
    go_wp2_with fail
    go_ret
    exact ⟨rfl, HB6.out⟩
  · have d1 : decide (30 < (L.length : Int)) = false := decide_eq_false (by omega)
    have d2 : decide (30 < L.length) = false := decide_eq_false h30
    clear h30 HCUT
    go_wp2_with fail
    refine (stream_Cut.calls z0n r1 r2 w1 HI.out).mono ?_
    rintro e w2 ⟨v, rfl, hq, hb⟩
    obtain ⟨A2, c2, rfl, hcc, hC⟩ := Kd.R_reads hq
    have HA := Aside0.mk hC
    have HAC := Aside0.mk hcc
    have HB2 := Aside0.mk hb
    clear hq hC hcc hb
    go_wp2_with fail
    refine (cambiumref19_Cut.calls 2000 z0n r1 r2 w2 HF.out).mono ?_
    rintro e w3 ⟨v, rfl, hq, hb⟩
    obtain ⟨A3, c3, rfl, hcc, hC⟩ := Kd.R_reads hq
    have HD := Aside0.mk hC
    have HDC := Aside0.mk hcc
    have HA3 := Aside0.mk (Kd.C_below HA.out hb)
    have HB3 := Aside0.mk (below_step HB2.out hb)
    clear hq hC hcc hb
    go_wp2_with fail
    refine (cambiumref14_SameNames.calls 2000 A2 c2 r1 A3 c3 r1 true w3 HA3.out HAC.out HD.out HDC.out HSS.out).mono ?_
    rintro e w4 ⟨rfl, hd⟩
    have HB4 := Aside0.mk (below_step HB3.out hd.below)
    clear hd
    go_wp2_with fail
    refine (stream_Glue.calls z1A z1c L (gluR L) w4 (Kd.C_below HC1.out HB4.out) HCC.out HG1.out).mono ?_
    rintro e w5 ⟨rfl, hb⟩
    have HB5 := Aside0.mk (below_step HB4.out hb)
    clear hb
    go_wp2_with fail
    refine (cambiumref19_Glue.calls 3000 z1A z1c L (gluR L) w5 (Kd.C_below HC1.out HB5.out) HCC.out HG2.out).mono ?_
    rintro e w6 ⟨rfl, hd⟩
    have HB6 := Aside0.mk (below_step HB1.out (below_step HB5.out hd.below))
    clear hd
    go_wp2_with fail
    go_ret
    exact ⟨rfl, HB6.out⟩
end Go.Proofs.YtgklipfeheohkaaDoor.P
