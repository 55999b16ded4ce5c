/- The law NameForm, walked. -/
import Derived.Test.YtafgfaimenccdaaDoorNameJ
import Derived.Test.YtafgfaimenccdaaDoorShown14
import Derived.Test.YtafgfaimenccdaaDoorRows
namespace Go.Proofs.YtafgfaimenccdaaDoor.P
open Go.RowKit Go.Proofs.YtafgfaimenccdaaDoorW.PrintWords Go.Proofs.YtafgfaimenccdaaDoorW.PrintLast Go.Proofs.YtafgfaimenccdaaDoorW.PrintMore
set_option linter.unusedVariables false
theorem firstErr_get : ∀ (T : List ByteArray), firstErr T = 0 → ∀ x ∈ T, validR x = 0
  | [], _, x, hx => by cases hx
  | y :: r, h, x, hx => by
    unfold firstErr at h
    by_cases hy : validR y = 0
    · rw [if_pos hy] at h
      rcases List.mem_cons.1 hx with rfl | hx
      · exact hy
      · exact firstErr_get r h x hx
    · rw [if_neg hy] at h
      exact absurd h hy
theorem gluR_parts (s : ByteArray) : gluR (partsB s) = s := by
  unfold gluR
  rw [partsB_data, cutL_join, asB_of]
theorem rest_data (s : ByteArray) (h : Lib.hasPrefix s.data.toList [47] = true) : (⟨#[47]⟩ : ByteArray) ++ restB s = s := by
  refine data_inj ?_
  rw [ByteArray.data_append, Array.toList_append]
  show [47] ++ (restB s).data.toList = _
  rcases s with ⟨⟨l⟩⟩
  cases l with
  | nil => exact absurd h (by decide)
  | cons b r =>
    have hb : b = 47 := (pre_cons b r).1 h
    subst hb
    unfold restB Lib.trimPrefix
    rw [if_pos h]
    rfl
/-- What is cut without a fault. -/
theorem split_ok (s : ByteArray) (r1 : ByteArray) (r2 : List ByteArray) (r3 : Int) (h : splitR s = (r1, r2, r3)) :
    (r3 = 0 ∧ s.size ≤ 200 ∧ (∀ x ∈ r2, validR x = 0) ∧ pathR r1 r2 = s) ∨ (r3 ≠ 0 ∧ r1 = ⟨#[]⟩ ∧ r2 = []) := by
  unfold splitR at h
  by_cases h1 : s.size > 200
  · rw [if_pos h1] at h
    cases h
    exact Or.inr ⟨by decide, rfl, rfl⟩
  · rw [if_neg h1] at h
    by_cases h2 : Lib.hasPrefix s.data.toList [47] = false
    · rw [if_pos h2] at h
      cases h
      exact Or.inr ⟨by decide, rfl, rfl⟩
    · rw [if_neg h2] at h
      have hp : Lib.hasPrefix s.data.toList [47] = true := by simpa using h2
      by_cases h3 : restB s = ⟨#[]⟩
      · rw [if_pos h3] at h
        cases h
        refine Or.inl ⟨rfl, by omega, (fun x hx => by cases hx), ?_⟩
        have := rest_data s hp
        rw [h3] at this
        exact this
      · rw [if_neg h3] at h
        cases hl : labelR ((partsB (restB s)).getD 0 ⟨#[]⟩) with
        | false =>
          rw [hl, if_pos rfl] at h
          cases h
          exact Or.inr ⟨by decide, rfl, rfl⟩
        | true =>
          rw [hl, if_neg (by decide)] at h
          by_cases h4 : firstErr ((partsB (restB s)).drop 1) = 0
          · rw [if_pos h4] at h
            cases h
            refine Or.inl ⟨rfl, by omega, firstErr_get _ h4, ?_⟩
            have hn := partsB_ne (restB s)
            have hq : (partsB (restB s)).getD 0 ⟨#[]⟩ :: (partsB (restB s)).drop 1 = partsB (restB s) := by
              cases hc : partsB (restB s) with
              | nil => rw [hc] at hn; exact absurd hn (by decide)
              | cons => rfl
            unfold pathR
            rw [hq, gluR_parts]
            exact rest_data s hp
          · rw [if_neg h4] at h
            cases h
            exact Or.inr ⟨h4, rfl, rfl⟩
set_option maxHeartbeats 4000000 in
set_option maxRecDepth 100000 in
theorem NameForm_law (z0n : ByteArray) (w : World) (h0 : Aside0 (z0n.size ≤ maxLen)) (hL : Aside0 (laidMetH Tryd.prog Rows.nameFormRow.laid w)) (hS : Aside0 (w.ShapedOpen Tryd.prog)) :
    Calls Tryd.prog 8 #[.string z0n] w fun e w' => e = .returned (.bool true) ∧ Below w.heap.size w w' := by
  have HM := Aside0.mk (Tryd.laysM146.s1_3 w hS.out)
  have K1 := Aside0.mk (shown14.st w HM.out)
  have hl := split_len z0n
  have hi := split_is z0n
  obtain ⟨⟨r1, r2, r3⟩, hr⟩ : ∃ r, splitR z0n = r := ⟨_, rfl⟩
  rw [hr] at hl hi
  have HI := Aside0.mk hi
  have HL := Aside0.mk hl
  have HO := Aside0.mk (split_ok _ _ _ _ hr)
  clear h0 hL hS hl hi hr
  go_enter Tryd.func8, Tryd.ntmps8
  go_wp2_with fail
  refine K1.out.mono ?_
  rintro e w1 ⟨rfl, hb⟩
  have HB1 := Aside0.mk hb
  have HM1 := Aside0.mk (HM.out.imp fun m h => pw_cell_below hb h)
  clear hb HM K1
  go_wp2_with fail
  refine (name_Split.calls 2000 z0n r1 r2 r3 w1 HM1.out HI.out).mono ?_
  rintro e w2 ⟨A, c, rfl, hcc, hC, hb⟩
  have HC := Aside0.mk hC
  have HCC := Aside0.mk hcc
  have HB2 := Aside0.mk (below_step HB1.out hb)
  clear hcc hC hb HM1 HB1
  rcases HO.out with ⟨rfl, hs, hv, hp⟩ | ⟨hn, rfl, rfl⟩
  · have HV := Aside0.mk hv
    have HP := Aside0.mk hp
    have HZ := Aside0.mk hs
    clear hs hv hp HO
    go_wp2_with fail
    go_loopw [7] (fun i wr => ∃ j : Nat, i = .int .i64 j ∧ j ≤ r2.length ∧ Aside0 (Below w2.heap.size w2 wr)) (fun i _ => r2.length - (intOf i).toNat)
    case atStart => exact ⟨0, rfl, Nat.zero_le _, ⟨Below.refl _ _⟩⟩
    case round =>
      obtain ⟨j, rfl, hj, HB4⟩ := hrel
      rename_i wr
      by_cases hlt : j < r2.length
      · have l2 : (j : Int) < (r2.length : Int) := Int.ofNat_lt.2 hlt
        have l1 : decide ((j : Int) < (r2.length : Int)) = true := decide_eq_true l2
        obtain ⟨ad, rfl, hc⟩ := Kd.at_string (Kd.C_below HC.out HB4.out) (j : Int) (Int.natCast_nonneg j) l2
        rw [Int.toNat_natCast, rd_at r2 j hlt] at hc
        have HY := Aside0.mk (HV.out _ (List.getElem_mem hlt))
        obtain ⟨y, hy⟩ : ∃ y, r2[j] = y := ⟨_, rfl⟩
        rw [hy] at hc HY
        have HK := name_Valid.calls y wr
        rw [HY.out] at HK
        have HKK := Aside0.mk HK
        have HLT := Aside0.mk hlt
        have wi : wrap64 ((j : Int) + 1) = ((j + 1 : Nat) : Int) := wr_ j (by have := HL.out; omega)
        clear hy hlt hj HK
        go_wp2_with (go_at_call 11; refine HKK.out.mono ?_; rintro e w5 ⟨rfl, hb5⟩)
        go_roundw
        case rel => exact ⟨j + 1, by rw [wi], HLT.out, ⟨below_step HB4.out hb5⟩⟩
        case measure =>
          rw [wi]
          have := HLT.out
          show r2.length - (((j + 1 : Nat) : Int)).toNat < r2.length - ((j : Nat) : Int).toNat
          rw [Int.toNat_natCast, Int.toNat_natCast]
          omega
      · have l1 : decide ((j : Int) < (r2.length : Int)) = false := decide_eq_false (by omega)
        have l1n : decide (j < r2.length) = false := decide_eq_false hlt
        have HC4 := Aside0.mk (Kd.C_below HC.out HB4.out)
        have HJ := Aside0.mk (show (gluR (r1 :: r2)).size ≤ 1099511627776 by
          have h1 := congrArg ByteArray.size HP.out
          unfold pathR at h1
          rw [ByteArray.size_append] at h1
          have := HZ.out
          omega)
        have hK := name_Join.st r1 A c r2 wr HC4.out HCC.out HL.out HJ.out
        rw [HP.out] at hK
        have HK := Aside0.mk hK
        have HB5 := Aside0.mk (below_step HB2.out HB4.out)
        clear hlt hj hK
        go_wp2_with fail
        refine HK.out.mono ?_
        rintro e w6 ⟨rfl, hb⟩
        have HB6 := Aside0.mk (below_step HB5.out hb)
        clear hb
        go_wp2_with fail
        go_ret
        exact ⟨rfl, HB6.out⟩
  · have n1 : (r3 != 0) = true := by simpa using hn
    have n2 : decide (r3 = 0) = false := decide_eq_false hn
    have n3 : (r3 == 0) = false := beq_false_of_ne hn
    clear hn HO
    go_wp2_with fail
    go_ret
    exact ⟨rfl, HB2.out⟩
end Go.Proofs.YtafgfaimenccdaaDoor.P
