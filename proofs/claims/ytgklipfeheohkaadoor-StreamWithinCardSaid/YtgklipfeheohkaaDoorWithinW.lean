/- The law StreamWithin, walked. -/
import Derived.Test.YtgklipfeheohkaaDoorPathsW
namespace Go.Proofs.YtgklipfeheohkaaDoor.P
open Go.RowKit Go.Proofs.YtgklipfeheohkaaDoorW.PrintWords Go.Proofs.YtgklipfeheohkaaDoorW.PrintLast Go.Proofs.YtgklipfeheohkaaDoorW.PrintMore Go.Proofs.YtgklipfeheohkaaDoor.Sep
set_option linter.unusedVariables false
theorem parts_names (a : ByteArray) (L : List ByteArray) (hL : ∀ x ∈ a :: L, validR x = 0) : partsB (gluR (a :: L)) = a :: L := by
  rw [partsB_cut]
  unfold gluR
  rw [asB_data, List.map_cons, cutL_of_join]
  · rw [← List.map_cons (f := fun x : ByteArray => x.data.toList), List.map_map]
    conv => rhs; rw [← List.map_id (a :: L)]
    exact List.map_congr_left fun x _ => asB_of x
  · intro y hy
    rw [← List.map_cons (f := fun x : ByteArray => x.data.toList)] at hy
    obtain ⟨x, hx, rfl⟩ := List.mem_map.1 hy
    exact validR_slash (hL x hx)
theorem cut_names (a : ByteArray) (L : List ByteArray) (hL : ∀ x ∈ a :: L, validR x = 0) (hs : (gluR (a :: L)).size ≤ 200) : cutR (gluR (a :: L)) = (a :: L, 0) := by
  unfold cutR
  rw [if_neg (by omega), parts_names a L hL, firstErr_zero _ hL, if_pos rfl]
theorem cut_none : cutR (gluR []) = ([], 12) := by decide +kernel
theorem cut_long (s : ByteArray) (h : 200 < s.size) : cutR s = ([], 7) := by
  unfold cutR
  rw [if_pos h]
theorem glu_valid (L : List ByteArray) (h30 : L.length ≤ 30) (hL : ∀ x ∈ L, validR x = 0) : (gluR L).size ≤ 1000 := by
  cases L with
  | nil => exact Nat.zero_le _
  | cons a r =>
    have := glu_size a r 20 (validR_le (hL a (by simp))) (fun x hx => validR_le (hL x (List.mem_cons_of_mem _ hx)))
    rw [List.length_cons] at h30
    omega
set_option maxHeartbeats 16000000 in
set_option maxRecDepth 100000 in
theorem StreamWithin_law (z0A : Option Addr) (z0c : Nat) (z0l : (List ByteArray)) (w : World) (h0 : Aside0 (z0l.length ≤ z0c ∧ Kd.C Kd.string w z0A z0l.length z0l ∧ (z0l.length ≤ maxLen ∧ ∀ y0_ ∈ z0l, y0_.size ≤ maxLen))) (hL : Aside0 (laidMetH Tryd.prog Rows.streamWithinRow.laid w)) (hS : Aside0 (w.ShapedOpen Tryd.prog)) :
    Calls Tryd.prog 4 #[.slice z0A z0l.length z0c] w fun e w' => e = .returned (.bool true) ∧ Below w.heap.size w w' := by
  have K1 := Aside0.mk (cambiumlaw19_shown.calls 300 true w shown19_is)
  obtain ⟨h11, h12, _⟩ := h0.out
  obtain ⟨q1, q2, q3⟩ := few_row z0A z0c z0l w h12 h11
  obtain ⟨L, hL⟩ : ∃ L, z0l.take 30 = L := ⟨_, rfl⟩
  rw [hL] at q1 q2 q3
  have HC := Aside0.mk q1
  have HCC := Aside0.mk q2
  have HLE := Aside0.mk q3
  have hcutfact : (30 < z0l.length ∧ L.length = 30) ∨ (¬ 30 < z0l.length ∧ L = z0l) := by
    by_cases h : 30 < z0l.length
    · exact Or.inl ⟨h, by rw [← hL, List.length_take]; omega⟩
    · exact Or.inr ⟨h, by rw [← hL, List.take_of_length_le (by omega)]⟩
  obtain ⟨i, hi, _⟩ := info_parts info_str
  have HCUT := Aside0.mk (fun h : 30 ≤ z0l.length => cut_to (P := Tryd.prog) 22 9 .i64 Tryd.underlying22 hi z0A z0l.length z0c (30 : Int) (by omega) (by omega) h11)
  clear h0 hL hS h11 h12 q1 q2 q3 hi
  go_enter Tryd.func4, Tryd.ntmps4
  go_wp2_with fail
  refine K1.out.mono ?_
  rintro e w1 ⟨rfl, hb⟩
  have HB1 := Aside0.mk hb
  have HC1 := Aside0.mk (Kd.C_below HC.out hb)
  clear hb K1 HC
  rcases hcutfact with ⟨h30, hL30⟩ | ⟨h30, rfl⟩
  · have d1 : decide (30 < (z0l.length : Int)) = true := decide_eq_true (by omega)
    have d2 : decide (30 < z0l.length) = true := decide_eq_true h30
    have hcut := HCUT.out (by omega)
    rw [show (30 : Int).toNat = L.length from hL30.symm] at hcut
    clear h30 hL30 HCUT
    go_wp2_with fail
    go_loopw [4] (fun i wr => ∃ j : Nat, i = .int .i64 j ∧ j ≤ L.length ∧ Aside0 (Below w1.heap.size w1 wr) ∧ Aside0 (∀ q (hq : q < L.length), q < j → validR L[q] = 0)) (fun i _ => L.length - (intOf i).toNat)
    case atStart => exact ⟨0, rfl, Nat.zero_le _, ⟨Below.refl _ _⟩, ⟨fun q _ hq => absurd hq (Nat.not_lt_zero _)⟩⟩
    case round =>
      obtain ⟨j, rfl, hj, HB4, HV⟩ := hrel
      have HC4 := Aside0.mk (Kd.C_below HC1.out HB4.out)
      by_cases hlt : j < L.length
      · have l2 : (j : Int) < (L.length : Int) := Int.ofNat_lt.2 hlt
        have l1 : decide ((j : Int) < (L.length : Int)) = true := decide_eq_true l2
        obtain ⟨ad, rfl, hc⟩ := Kd.at_string HC4.out (j : Int) (Int.natCast_nonneg j) l2
        rw [Int.toNat_natCast, rd_at L j hlt] at hc
        obtain ⟨y, hy⟩ : ∃ y, L[j] = y := ⟨_, rfl⟩
        rw [hy] at hc
        obtain ⟨v, hv⟩ : ∃ v, validR y = v := ⟨_, rfl⟩
        have HK := Aside0.mk (cambiumref14_Valid.calls 100 y v wr (by rw [Valid_mono _ _ (Nat.le_refl _), hv]))
        have HLT := Aside0.mk hlt
        have wi : wrap64 ((j : Int) + 1) = ((j + 1 : Nat) : Int) := wr_ j (by have := HLE.out; omega)
        have HY := Aside0.mk (show validR L[j] = v by rw [hy]; exact hv)
        clear hy hv hj
        by_cases hv0 : v = 0
        · subst hv0
          go_wp2_with (go_at_call 15; refine HK.out.mono ?_; rintro e w5 ⟨rfl, hd⟩)
          go_roundw
          case rel =>
            refine ⟨j + 1, by rw [wi], HLT.out, ⟨below_step HB4.out hd.below⟩, ⟨fun q hq hqj => ?_⟩⟩
            by_cases hq2 : q < j
            · exact HV.out q hq hq2
            · obtain rfl : q = j := by omega
              exact HY.out
          case measure =>
            rw [wi]
            have := HLT.out
            show L.length - (((j + 1 : Nat) : Int)).toNat < L.length - ((j : Nat) : Int).toNat
            rw [Int.toNat_natCast, Int.toNat_natCast]
            omega
        · have z1 : (v != 0) = true := by simpa using hv0
          have z2 : decide (v = 0) = false := decide_eq_false hv0
          have z3 : (v == 0) = false := beq_false_of_ne hv0
          clear hv0
          go_wp2_with (go_at_call 15; refine HK.out.mono ?_; rintro e w5 ⟨rfl, hd⟩)
          go_ret
          exact ⟨rfl, below_step HB1.out (below_step HB4.out hd.below)⟩
      · have l1 : decide ((j : Int) < (L.length : Int)) = false := decide_eq_false (by omega)
        have l1n : decide (j < L.length) = false := decide_eq_false hlt
        have hall : ∀ x ∈ L, validR x = 0 := fun x hx => by
          obtain ⟨q, hq, rfl⟩ := List.getElem_of_mem hx
          exact HV.out q hq (by omega)
        have hgz := glu_valid L HLE.out hall
        have HG := Aside0.mk (show stream_Glue.f L = some (gluR L) by unfold stream_Glue.f; rw [if_pos ⟨by have := HLE.out; omega, by omega⟩])
        have HBW := Aside0.mk (below_step HB1.out HB4.out)
        clear hj hlt HV
        cases L with
        | nil =>
          have HI := Aside0.mk (show stream_Cut.f (gluR []) = some ([], 12) by unfold stream_Cut.f; rw [cut_none])
          clear hall hgz
          go_wp2_with fail
          refine (stream_Glue.calls z0A z0c [] (gluR []) _ HC4.out HCC.out HG.out).mono ?_
          rintro e w5 ⟨rfl, hb⟩
          have HB5 := Aside0.mk (below_step HBW.out hb)
          clear hb
          rw [show gluR [] = ⟨#[]⟩ from rfl] at HI ⊢
          go_wp2_with fail
          refine (stream_Cut.calls ⟨#[]⟩ [] 12 w5 HI.out).mono ?_
          rintro e w6 ⟨v, rfl, hq, hb⟩
          have HB6 := Aside0.mk (below_step HB5.out hb)
          obtain ⟨A6, c6, rfl, _, _⟩ := Kd.R_reads hq
          clear hq hb
          go_wp2_with fail
          go_ret
          exact ⟨rfl, HB6.out⟩
        | cons a r =>
          have hcn := cut_names a r hall
          have hcl := cut_long (gluR (a :: r))
          have e0 : decide (((a :: r).length : Int) = 0) = false := decide_eq_false (by rw [List.length_cons]; omega)
          have e1 : (((a :: r).length : Int) == 0) = false := beq_false_of_ne (by rw [List.length_cons]; omega)
          obtain ⟨T, hT⟩ : ∃ T, a :: r = T := ⟨_, rfl⟩
          rw [hT] at HLE HG hgz hcn hcl e0 e1 HCC HC4 HC1 l1 l1n
          rw [hT]
          have hne : ¬ T.length = 0 := by rw [← hT]; simp
          have e2 : decide (T.length = 0) = false := decide_eq_false hne
          have e3 : (T.length == 0) = false := beq_false_of_ne hne
          have e4 : ¬ T = [] := by rw [← hT]; simp
          obtain ⟨s, hs⟩ : ∃ s, gluR T = s := ⟨_, rfl⟩
          rw [hs] at HG hgz hcn hcl
          by_cases h2 : s.size ≤ 200
          · have HI := Aside0.mk (show stream_Cut.f s = some (T, 0) by unfold stream_Cut.f; rw [hcn h2])
            have c1 : decide ((s.size : Int) > 200) = false := decide_eq_false (by omega)
            have c2 : decide (200 < s.size) = false := decide_eq_false (by omega)
            have HSS := Aside0.mk (show cambiumref14_SameNames.f 2000 T T = some true by rw [same_is _ _ (by have := HLE.out; omega), decide_eq_true rfl])
            clear hall hgz hcn hcl h2 hs hT hne
            go_wp2_with fail
            refine (stream_Glue.calls z0A z0c T s _ HC4.out HCC.out HG.out).mono ?_
            rintro e w5 ⟨rfl, hb⟩
            have HB5 := Aside0.mk (below_step HBW.out hb)
            have HC5 := Aside0.mk (Kd.C_below HC4.out hb)
            clear hb
            go_wp2_with fail
            refine (stream_Cut.calls s T 0 w5 HI.out).mono ?_
            rintro e w6 ⟨v, rfl, hq, hb⟩
            have HB6 := Aside0.mk (below_step HB5.out hb)
            have HC6 := Aside0.mk (Kd.C_below HC5.out hb)
            obtain ⟨A6, c6, rfl, hcc, hC⟩ := Kd.R_reads hq
            have HA6 := Aside0.mk hC
            have HL6 := Aside0.mk hcc
            clear hq hb hcc hC
            go_wp2_with fail
            refine (cambiumref14_SameNames.calls 2000 z0A z0c T A6 c6 T true w6 HC6.out HCC.out HA6.out HL6.out HSS.out).mono ?_
            rintro e w7 ⟨rfl, hd⟩
            have HB7 := Aside0.mk (below_step HB6.out hd.below)
            clear hd
            go_wp2_with fail
            go_ret
            exact ⟨rfl, HB7.out⟩
          · have HI := Aside0.mk (show stream_Cut.f s = some ([], 7) by unfold stream_Cut.f; rw [hcl (by omega)])
            have c1 : decide ((s.size : Int) > 200) = true := decide_eq_true (by omega)
            have c2 : decide (200 < s.size) = true := decide_eq_true (by omega)
            clear hall hgz hcn hcl h2 hs hT hne
            go_wp2_with fail
            refine (stream_Glue.calls z0A z0c T s _ HC4.out HCC.out HG.out).mono ?_
            rintro e w5 ⟨rfl, hb⟩
            have HB5 := Aside0.mk (below_step HBW.out hb)
            clear hb
            go_wp2_with fail
            refine (stream_Cut.calls s [] 7 w5 HI.out).mono ?_
            rintro e w6 ⟨v, rfl, hq, hb⟩
            have HB6 := Aside0.mk (below_step HB5.out hb)
            obtain ⟨A6, c6, rfl, _, _⟩ := Kd.R_reads hq
            clear hq hb
            go_wp2_with fail
            go_ret
            exact ⟨rfl, HB6.out⟩
  · have d1 : decide (30 < (L.length : Int)) = false := decide_eq_false (by omega)
    have d2 : decide (30 < L.length) = false := decide_eq_false h30
    clear h30 HCUT
    go_wp2_with fail
    go_loopw [4] (fun i wr => ∃ j : Nat, i = .int .i64 j ∧ j ≤ L.length ∧ Aside0 (Below w1.heap.size w1 wr) ∧ Aside0 (∀ q (hq : q < L.length), q < j → validR L[q] = 0)) (fun i _ => L.length - (intOf i).toNat)
    case atStart => exact ⟨0, rfl, Nat.zero_le _, ⟨Below.refl _ _⟩, ⟨fun q _ hq => absurd hq (Nat.not_lt_zero _)⟩⟩
    case round =>
      obtain ⟨j, rfl, hj, HB4, HV⟩ := hrel
      have HC4 := Aside0.mk (Kd.C_below HC1.out HB4.out)
      by_cases hlt : j < L.length
      · have l2 : (j : Int) < (L.length : Int) := Int.ofNat_lt.2 hlt
        have l1 : decide ((j : Int) < (L.length : Int)) = true := decide_eq_true l2
        obtain ⟨ad, rfl, hc⟩ := Kd.at_string HC4.out (j : Int) (Int.natCast_nonneg j) l2
        rw [Int.toNat_natCast, rd_at L j hlt] at hc
        obtain ⟨y, hy⟩ : ∃ y, L[j] = y := ⟨_, rfl⟩
        rw [hy] at hc
        obtain ⟨v, hv⟩ : ∃ v, validR y = v := ⟨_, rfl⟩
        have HK := Aside0.mk (cambiumref14_Valid.calls 100 y v wr (by rw [Valid_mono _ _ (Nat.le_refl _), hv]))
        have HLT := Aside0.mk hlt
        have wi : wrap64 ((j : Int) + 1) = ((j + 1 : Nat) : Int) := wr_ j (by have := HLE.out; omega)
        have HY := Aside0.mk (show validR L[j] = v by rw [hy]; exact hv)
        clear hy hv hj
        by_cases hv0 : v = 0
        · subst hv0
          go_wp2_with (go_at_call 15; refine HK.out.mono ?_; rintro e w5 ⟨rfl, hd⟩)
          go_roundw
          case rel =>
            refine ⟨j + 1, by rw [wi], HLT.out, ⟨below_step HB4.out hd.below⟩, ⟨fun q hq hqj => ?_⟩⟩
            by_cases hq2 : q < j
            · exact HV.out q hq hq2
            · obtain rfl : q = j := by omega
              exact HY.out
          case measure =>
            rw [wi]
            have := HLT.out
            show L.length - (((j + 1 : Nat) : Int)).toNat < L.length - ((j : Nat) : Int).toNat
            rw [Int.toNat_natCast, Int.toNat_natCast]
            omega
        · have z1 : (v != 0) = true := by simpa using hv0
          have z2 : decide (v = 0) = false := decide_eq_false hv0
          have z3 : (v == 0) = false := beq_false_of_ne hv0
          clear hv0
          go_wp2_with (go_at_call 15; refine HK.out.mono ?_; rintro e w5 ⟨rfl, hd⟩)
          go_ret
          exact ⟨rfl, below_step HB1.out (below_step HB4.out hd.below)⟩
      · have l1 : decide ((j : Int) < (L.length : Int)) = false := decide_eq_false (by omega)
        have l1n : decide (j < L.length) = false := decide_eq_false hlt
        have hall : ∀ x ∈ L, validR x = 0 := fun x hx => by
          obtain ⟨q, hq, rfl⟩ := List.getElem_of_mem hx
          exact HV.out q hq (by omega)
        have hgz := glu_valid L HLE.out hall
        have HG := Aside0.mk (show stream_Glue.f L = some (gluR L) by unfold stream_Glue.f; rw [if_pos ⟨by have := HLE.out; omega, by omega⟩])
        have HBW := Aside0.mk (below_step HB1.out HB4.out)
        clear hj hlt HV
        cases L with
        | nil =>
          have HI := Aside0.mk (show stream_Cut.f (gluR []) = some ([], 12) by unfold stream_Cut.f; rw [cut_none])
          clear hall hgz
          go_wp2_with fail
          refine (stream_Glue.calls z0A z0c [] (gluR []) _ HC4.out HCC.out HG.out).mono ?_
          rintro e w5 ⟨rfl, hb⟩
          have HB5 := Aside0.mk (below_step HBW.out hb)
          clear hb
          rw [show gluR [] = ⟨#[]⟩ from rfl] at HI ⊢
          go_wp2_with fail
          refine (stream_Cut.calls ⟨#[]⟩ [] 12 w5 HI.out).mono ?_
          rintro e w6 ⟨v, rfl, hq, hb⟩
          have HB6 := Aside0.mk (below_step HB5.out hb)
          obtain ⟨A6, c6, rfl, _, _⟩ := Kd.R_reads hq
          clear hq hb
          go_wp2_with fail
          go_ret
          exact ⟨rfl, HB6.out⟩
        | cons a r =>
          have hcn := cut_names a r hall
          have hcl := cut_long (gluR (a :: r))
          have e0 : decide (((a :: r).length : Int) = 0) = false := decide_eq_false (by rw [List.length_cons]; omega)
          have e1 : (((a :: r).length : Int) == 0) = false := beq_false_of_ne (by rw [List.length_cons]; omega)
          obtain ⟨T, hT⟩ : ∃ T, a :: r = T := ⟨_, rfl⟩
          rw [hT] at HLE HG hgz hcn hcl e0 e1 HCC HC4 HC1 l1 l1n
          rw [hT]
          have hne : ¬ T.length = 0 := by rw [← hT]; simp
          have e2 : decide (T.length = 0) = false := decide_eq_false hne
          have e3 : (T.length == 0) = false := beq_false_of_ne hne
          have e4 : ¬ T = [] := by rw [← hT]; simp
          obtain ⟨s, hs⟩ : ∃ s, gluR T = s := ⟨_, rfl⟩
          rw [hs] at HG hgz hcn hcl
          by_cases h2 : s.size ≤ 200
          · have HI := Aside0.mk (show stream_Cut.f s = some (T, 0) by unfold stream_Cut.f; rw [hcn h2])
            have c1 : decide ((s.size : Int) > 200) = false := decide_eq_false (by omega)
            have c2 : decide (200 < s.size) = false := decide_eq_false (by omega)
            have HSS := Aside0.mk (show cambiumref14_SameNames.f 2000 T T = some true by rw [same_is _ _ (by have := HLE.out; omega), decide_eq_true rfl])
            clear hall hgz hcn hcl h2 hs hT hne
            go_wp2_with fail
            refine (stream_Glue.calls z0A z0c T s _ HC4.out HCC.out HG.out).mono ?_
            rintro e w5 ⟨rfl, hb⟩
            have HB5 := Aside0.mk (below_step HBW.out hb)
            have HC5 := Aside0.mk (Kd.C_below HC4.out hb)
            clear hb
            go_wp2_with fail
            refine (stream_Cut.calls s T 0 w5 HI.out).mono ?_
            rintro e w6 ⟨v, rfl, hq, hb⟩
            have HB6 := Aside0.mk (below_step HB5.out hb)
            have HC6 := Aside0.mk (Kd.C_below HC5.out hb)
            obtain ⟨A6, c6, rfl, hcc, hC⟩ := Kd.R_reads hq
            have HA6 := Aside0.mk hC
            have HL6 := Aside0.mk hcc
            clear hq hb hcc hC
            go_wp2_with fail
            refine (cambiumref14_SameNames.calls 2000 z0A z0c T A6 c6 T true w6 HC6.out HCC.out HA6.out HL6.out HSS.out).mono ?_
            rintro e w7 ⟨rfl, hd⟩
            have HB7 := Aside0.mk (below_step HB6.out hd.below)
            clear hd
            go_wp2_with fail
            go_ret
            exact ⟨rfl, HB7.out⟩
          · have HI := Aside0.mk (show stream_Cut.f s = some ([], 7) by unfold stream_Cut.f; rw [hcl (by omega)])
            have c1 : decide ((s.size : Int) > 200) = true := decide_eq_true (by omega)
            have c2 : decide (200 < s.size) = true := decide_eq_true (by omega)
            clear hall hgz hcn hcl h2 hs hT hne
            go_wp2_with fail
            refine (stream_Glue.calls z0A z0c T s _ HC4.out HCC.out HG.out).mono ?_
            rintro e w5 ⟨rfl, hb⟩
            have HB5 := Aside0.mk (below_step HBW.out hb)
            clear hb
            go_wp2_with fail
            refine (stream_Cut.calls s [] 7 w5 HI.out).mono ?_
            rintro e w6 ⟨v, rfl, hq, hb⟩
            have HB6 := Aside0.mk (below_step HB5.out hb)
            obtain ⟨A6, c6, rfl, _, _⟩ := Kd.R_reads hq
            clear hq hb
            go_wp2_with fail
            go_ret
            exact ⟨rfl, HB6.out⟩
end Go.Proofs.YtgklipfeheohkaaDoor.P
