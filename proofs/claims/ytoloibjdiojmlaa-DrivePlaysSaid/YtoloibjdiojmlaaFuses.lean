/- DriveFuses' walk. -/
import Derived.Test.YtoloibjdiojmlaaPairs
namespace Go.Proofs.Ytoloibjdiojmlaa.P
open Go.RowKit Go.Proofs.YtoloibjdiojmlaaW.PrintWords Go.Proofs.YtoloibjdiojmlaaW.PrintLast Go.Proofs.YtoloibjdiojmlaaW.PrintMore Go.Proofs.Ytoloibjdiojmlaa.Sep
set_option linter.unusedVariables false
set_option linter.unusedSimpArgs false
attribute [local go_sem] max2_int min2_int max_two min_two max_three min_three max_four min_four
structure FuseInv (most : Int) (i : Nat) (D : DV) : Prop where
  n : D.hs.length = 32
  s : (D.steps : Int) = min (i : Int) most
  o : D.off = decide (most < (i : Int))
  f : D.fuse = most - min (i : Int) most
theorem FuseInv.next {most : Int} {i : Nat} {D : DV} (h : FuseInv most i D) (h0 : 0 ≤ most) : stepE D = (if (i : Int) < most then 0 else 4) ∧ FuseInv most (i + 1) (stepD D) := by
  obtain ⟨hn, hs, ho, hf⟩ := h
  by_cases hlt : (i : Int) < most
  · have hne : ¬ (D.off = true ∨ D.fuse = 0) := by
      rw [ho, decide_eq_true_eq]
      omega
    have hp : 0 < D.fuse := by omega
    unfold stepE stepD
    rw [if_neg hne, if_neg hne, if_pos hlt, if_pos hp]
    refine ⟨rfl, hn, ?_, ?_, ?_⟩
    · dsimp only; omega
    · dsimp only
      rw [ho]
      rw [decide_eq_false (by omega), decide_eq_false (by omega)]
    · dsimp only; omega
  · have hor : D.off = true ∨ D.fuse = 0 := by
      rw [ho, decide_eq_true_eq]
      omega
    unfold stepE stepD
    rw [if_pos hor, if_pos hor, if_neg hlt]
    refine ⟨rfl, hn, ?_, ?_, ?_⟩
    · dsimp only; omega
    · dsimp only
      rw [decide_eq_true (by omega)]
    · dsimp only; omega
theorem FuseInv.flush {most : Int} {i : Nat} {D : DV} (h : FuseInv most i D) : FuseInv most i (flushD D) := ⟨by unfold flushD; simp [h.n], h.s, h.o, h.f⟩
theorem FuseInv.put {most : Int} {i : Nat} {D : DV} (h : FuseInv most i D) (k : Nat) (x : List Int) : FuseInv most i (putD D k x) := ⟨h.n, h.s, h.o, h.f⟩
theorem FuseInv.start (most : Int) (h : 0 ≤ most) : FuseInv most 0 (fuseD (newD 32) most) := by
  refine ⟨by unfold fuseD newD; rw [List.length_replicate], ?_, ?_, ?_⟩
  · unfold fuseD newD; dsimp only; omega
  · unfold fuseD newD; dsimp only; rw [decide_eq_false (by omega)]
  · unfold fuseD newD; dsimp only; omega
theorem isS_in {D : DV} {n : Nat} (h : D.hs.length = n) {s : Int} (h0 : 0 ≤ s) (h1 : s < n) : isS D s = true := by
  unfold isS
  rw [h, decide_eq_true h0, decide_eq_true h1]
  rfl
set_option maxHeartbeats 8000000 in
set_option maxRecDepth 100000 in
theorem DriveFuses_law (z0n : Int) (z1A : Option Addr) (z1c : Nat) (z1l : (List (Int × Int))) (w : World) (h0 : Aside0 ((Lit.int .i64 z0n).wf = true)) (h1 : Aside0 (z1l.length ≤ z1c ∧ Kd.C (Kd.pair (Kd.int .i64) (Kd.int .i64)) w z1A z1l.length z1l ∧ (z1l.length ≤ maxLen ∧ ∀ y0_ ∈ z1l, ((Lit.int .i64 y0_.1).wf = true ∧ (Lit.int .i64 y0_.2).wf = true)))) :
    Calls Try.prog 4 #[.int .i64 z0n, .slice z1A z1l.length z1c] w fun e w' => e = .returned (.bool true) ∧ Below w.heap.size w w' := by
  have HK := Aside0.mk (i64_range h0.out)
  have HR := Aside0.mk h1.out.2.1
  have HPR := Aside0.mk (pair_range h1.out.2.2.2)
  clear h0 h1
  obtain ⟨N, hN⟩ : ∃ N, z1l.length = N := ⟨_, rfl⟩
  rw [hN] at HR ⊢
  clear hN
  go_enter Try.func4, Try.ntmps4
  go_wp2_with fail
  refine (law03_shown.st (St.start w)).mono ?_
  rintro e w1 ⟨rfl, hs⟩
  have HS1 := Aside0.mk hs
  clear hs
  go_wp2_with fail
  refine (drive_New.st HS1.out 32).mono ?_
  intro e w2 hp
  rw [NewPost, if_pos (by decide)] at hp
  obtain ⟨g, rfl, hs⟩ := hp
  have HS2 := Aside0.mk (show St w w2 (drv g (newD 32) :: _) from hs)
  clear hs HS1
  go_wp2_with fail
  refine (law03_kind.st z0n 41 HK.out (by decide) (by decide) _).mono ?_
  rintro e w' ⟨rfl, rfl⟩
  obtain ⟨most, hm⟩ : ∃ m, kindR z0n 41 = m := ⟨_, rfl⟩
  have HMR := Aside0.mk (show 0 ≤ most ∧ most < 41 from hm ▸ kindR_range z0n 41 (by decide))
  rw [hm]
  clear hm
  go_wp2_with fail
  refine (drive_Fuse.st HS2.out most (by have := HMR.out; omega)).mono ?_
  rintro e w3 ⟨rfl, hs⟩
  have HS3 := Aside0.mk hs
  have HI0 := Aside0.mk (FuseInv.start most HMR.out.1)
  clear hs HS2
  go_wp2_with fail
  go_loopw [9] (fun ix wr => ∃ (i : Nat) (D : DV), ix = .int .i64 (i : Int) ∧ i ≤ 60 ∧ Aside0 (FuseInv most i D) ∧ Aside0 (St w wr [drv g D])) (fun ix _ => 60 - (intOf ix).toNat)
  case atStart => exact ⟨0, _, rfl, Nat.zero_le _, HI0, HS3⟩
  case round =>
    clear HS3 HI0
    obtain ⟨i, D, rfl, hi, HI, HS⟩ := hrel
    rcases o_both 60 i N with ⟨hN, h60, h1, h2, h3, h4⟩ | ⟨hN, h1, h3⟩ | ⟨hN, h60, h1, h2, h3, h4⟩
    · obtain ⟨ad, hA, k0, k1⟩ := pairs_at HS.out.below HR.out i hN
      subst hA
      have hp := HPR.out i
      obtain ⟨x, hx⟩ : ∃ x, z1l.getD i (0, 0) = x := ⟨_, rfl⟩
      rw [hx] at k0 k1 hp
      obtain ⟨xa, xb⟩ := x
      have HXR := Aside0.mk hp
      have HI60 := Aside0.mk h60
      clear hx hp hN h60 hi
      go_wp2_with fail
      refine (law03_kind.st xa 40 HXR.out.1 (by decide) (by decide) _).mono ?_
      rintro e w' ⟨rfl, rfl⟩
      obtain ⟨kk, hkk⟩ : ∃ kk, kindR xa 40 = kk := ⟨_, rfl⟩
      have HKR := Aside0.mk (show 0 ≤ kk ∧ kk < 40 from hkk ▸ kindR_range xa 40 (by decide))
      rw [hkk]
      clear hkk
      obtain ⟨hE, hI2⟩ := HI.out.next HMR.out.1
      have HE := Aside0.mk hE
      have HI2 := Aside0.mk hI2
      have HST := Aside0.mk (show D.steps < 1000000 from by have := HI.out.s; have := HI60.out; omega)
      clear hE hI2
      obtain ⟨ee, hee⟩ : ∃ ee : Int, (if (i : Int) < most then 0 else 4) = ee := ⟨_, rfl⟩
      rw [hee] at HE
      have HEE := Aside0.mk hee
      clear hee
      go_upto_if 48 with fail
      go_cut [11] (fun v wx => v = .int .i64 ee ∧ ∃ D', Aside0 (FuseInv most (i + 1) D') ∧ Aside0 (St w wx [drv g D']))
      case first =>
        by_cases hk : kk ≥ 32
        · have h5 : decide (kk ≥ 32) = true := decide_eq_true hk
          clear k0 k1
          go_wp2_with fail
          refine (drive_Flush.st HS.out HST.out).mono ?_
          intro e w5 hp
          unfold FlushPost at hp
          rw [HE.out] at hp
          by_cases h0 : ee = 0
          · rw [if_pos h0] at hp
            subst h0
            obtain ⟨rfl, hs⟩ := hp
            have HS5 := Aside0.mk hs
            clear hs
            go_wp2
            go_meet
            exact ⟨rfl, _, ⟨HI2.out.flush⟩, HS5⟩
          · rw [if_neg h0] at hp
            have h4 : ee = 4 := by
              have := HEE.out
              split at this <;> omega
            subst h4
            obtain ⟨rfl, hs⟩ := hp
            have HS5 := Aside0.mk hs
            clear hs
            go_wp2
            go_meet
            exact ⟨rfl, _, HI2, HS5⟩
        · have h5 : decide (kk ≥ 32) = false := decide_eq_false hk
          have HIS := Aside0.mk (isS_in HI.out.n HKR.out.1 (show kk < (32 : Nat) from by omega))
          have hk2 : kk < 32 := by omega
          clear k0
          go_wp2_with fail
          refine (law03_filled.st HS.out xb).mono ?_
          rintro e w4 ⟨f4, rfl, hs⟩
          have HS4 := Aside0.mk (St.swap hs)
          clear hs
          go_wp2_with fail
          refine (drive_Write.st HS4.out kk (fillS_ok xb).2 HST.out).mono ?_
          intro e w5 hp
          unfold WritePost at hp
          rw [if_pos ⟨HIS.out, (fillS_ok xb).1⟩, HE.out] at hp
          by_cases h0 : ee = 0
          · rw [if_pos h0] at hp
            subst h0
            obtain ⟨rfl, hs⟩ := hp
            have HS5 := Aside0.mk (St.drop (St.swap hs))
            clear hs
            go_wp2
            go_meet
            exact ⟨rfl, _, ⟨HI2.out.put _ _⟩, HS5⟩
          · rw [if_neg h0] at hp
            have h4 : ee = 4 := by
              have := HEE.out
              split at this <;> omega
            subst h4
            obtain ⟨rfl, hs⟩ := hp
            have HS5 := Aside0.mk (St.drop (St.swap hs))
            clear hs
            go_wp2
            go_meet
            exact ⟨rfl, _, HI2, HS5⟩
      case rest =>
        obtain ⟨rfl, D', HI3, HS3⟩ := hcut
        clear HS HI HI2 k0 k1 h1 h2 h3 h4
        have e1 := Aside0.mk (incM i (by have := HI60.out; omega))
        have HME := Aside0.mk (measM 60 i HI60.out)
        have hs3 := HI3.out.s
        have ho3 := HI3.out.o
        by_cases hlt : (i : Int) < most
        · have h5 : decide ((i : Int) < most) = true := decide_eq_true hlt
          obtain rfl : ee = 0 := by have := HEE.out; rw [if_pos hlt] at this; omega
          have ho4 : D'.off = false := by rw [ho3]; exact decide_eq_false (by omega)
          have hs4 : (D'.steps : Int) = (i : Int) + 1 := by rw [hs3]; omega
          have h6 : min ((i : Int) + 1) most = (i : Int) + 1 := by omega
          have h7 : (i : Int) + 1 ≤ most := by omega
          clear hs3 ho3
          go_wp2_with fail
          refine (drive_On.st HS3.out).mono ?_
          rintro e w' ⟨rfl, rfl⟩
          rw [ho4]
          go_wp2_with fail
          refine (drive_Steps.st HS3.out).mono ?_
          rintro e w' ⟨rfl, rfl⟩
          rw [hs4]
          go_wp2_with fail
          go_roundw
          case rel => exact ⟨i + 1, D', by first | rfl | rw [e1.out], HI60.out, HI3, HS3⟩
          case measure => exact HME.out _ (by first | rfl | exact e1.out)
        · have h5 : decide ((i : Int) < most) = false := decide_eq_false hlt
          obtain rfl : ee = 4 := by have := HEE.out; rw [if_neg hlt] at this; omega
          have ho4 : D'.off = true := by rw [ho3]; exact decide_eq_true (by omega)
          have hs4 : (D'.steps : Int) = most := by rw [hs3]; omega
          have h6 : min ((i : Int) + 1) most = most := by omega
          have h7 : ¬ (i : Int) + 1 ≤ most := by omega
          clear hs3 ho3
          go_wp2_with fail
          refine (drive_On.st HS3.out).mono ?_
          rintro e w' ⟨rfl, rfl⟩
          rw [ho4]
          go_wp2_with fail
          refine (drive_Steps.st HS3.out).mono ?_
          rintro e w' ⟨rfl, rfl⟩
          rw [hs4]
          go_wp2_with fail
          go_roundw
          case rel => exact ⟨i + 1, D', by first | rfl | rw [e1.out], HI60.out, HI3, HS3⟩
          case measure => exact HME.out _ (by first | rfl | exact e1.out)
    · have HST := Aside0.mk (show D.steps < 1000000 from by have := HI.out.s; omega)
      have HN := Aside0.mk HI.out.n
      clear HI hi
      go_wp2_with fail
      refine (drive_Read.st HS.out 0).mono ?_
      intro e w5 hp
      obtain ⟨bo, hbo⟩ : ∃ bo, D.off = bo := ⟨_, rfl⟩
      have HBO := Aside0.mk hbo
      obtain ⟨A3, n3, c3, er, rfl, her, hs⟩ : ∃ (A3 : Option Addr) (n3 c3 : Nat) (er : Int), e = .returned (.tuple #[.slice A3 n3 c3, .int .i64 er]) ∧ er = (if bo then 4 else 0) ∧ St w w5 [drv g D] := by
        rw [ReadPost, hbo] at hp
        cases bo with
        | true =>
          rw [if_pos rfl] at hp
          exact ⟨none, 0, 0, 4, hp.1, rfl, hp.2⟩
        | false =>
          rw [if_neg (by decide), if_neg (by rw [isS_in HN.out (Int.le_refl 0) (by decide)]; decide)] at hp
          obtain ⟨h, he, hs⟩ := hp
          exact ⟨_, 256, 256, 0, he, rfl, hs.drop⟩
      have HS5 := Aside0.mk hs
      have HER := Aside0.mk her
      clear hs hbo her HS
      go_wp2_with fail
      refine (drive_On.st HS5.out).mono ?_
      rintro e w' ⟨rfl, rfl⟩
      rw [HBO.out]
      go_wp2_with fail
      refine (drive_Crash.st HS5.out (KC.nil _) (Nat.le_refl _) (fun x hx => by cases hx) HST.out).mono ?_
      rintro e w6 ⟨rfl, hs⟩
      have HS6 := Aside0.mk hs
      clear hs HS5
      have HE6 := Aside0.mk (show stepE (crashD D []) = 0 from rfl)
      have HO6 := Aside0.mk (show (crashD D []).off = false from rfl)
      have HN6 := Aside0.mk (show (crashD D []).hs.length = 32 from by unfold crashD; dsimp only; rw [crashL_len]; exact HN.out)
      have HT6 := Aside0.mk (show (crashD D []).steps < 1000000 from HST.out)
      cases bo with
      | true =>
        obtain rfl : er = 4 := HER.out
        go_wp2_with fail
        refine (drive_On.st HS6.out).mono ?_
        rintro e w' ⟨rfl, rfl⟩
        rw [HO6.out]
        go_wp2_with fail
        refine (law03_filled.st HS6.out 5).mono ?_
        rintro e w7 ⟨f7, rfl, hs⟩
        have HS7 := Aside0.mk (St.swap hs)
        clear hs HS6
        go_wp2_with fail
        refine (drive_Write.st HS7.out 0 (fillS_ok 5).2 HT6.out).mono ?_
        intro e w8 hp
        rw [WritePost, if_pos ⟨isS_in HN6.out (Int.le_refl 0) (by decide), (fillS_ok 5).1⟩, if_pos HE6.out] at hp
        obtain ⟨rfl, hs⟩ := hp
        have HS8 := Aside0.mk hs
        clear hs
        go_wp2
        go_ret
        exact ⟨rfl, HS8.out.below⟩
      | false =>
        obtain rfl : er = 0 := HER.out
        go_wp2_with fail
        refine (drive_On.st HS6.out).mono ?_
        rintro e w' ⟨rfl, rfl⟩
        rw [HO6.out]
        go_wp2_with fail
        refine (law03_filled.st HS6.out 5).mono ?_
        rintro e w7 ⟨f7, rfl, hs⟩
        have HS7 := Aside0.mk (St.swap hs)
        clear hs HS6
        go_wp2_with fail
        refine (drive_Write.st HS7.out 0 (fillS_ok 5).2 HT6.out).mono ?_
        intro e w8 hp
        rw [WritePost, if_pos ⟨isS_in HN6.out (Int.le_refl 0) (by decide), (fillS_ok 5).1⟩, if_pos HE6.out] at hp
        obtain ⟨rfl, hs⟩ := hp
        have HS8 := Aside0.mk hs
        clear hs
        go_wp2
        go_ret
        exact ⟨rfl, HS8.out.below⟩
    · have HST := Aside0.mk (show D.steps < 1000000 from by have := HI.out.s; omega)
      have HN := Aside0.mk HI.out.n
      clear HI hi
      go_wp2_with fail
      refine (drive_Read.st HS.out 0).mono ?_
      intro e w5 hp
      obtain ⟨bo, hbo⟩ : ∃ bo, D.off = bo := ⟨_, rfl⟩
      have HBO := Aside0.mk hbo
      obtain ⟨A3, n3, c3, er, rfl, her, hs⟩ : ∃ (A3 : Option Addr) (n3 c3 : Nat) (er : Int), e = .returned (.tuple #[.slice A3 n3 c3, .int .i64 er]) ∧ er = (if bo then 4 else 0) ∧ St w w5 [drv g D] := by
        rw [ReadPost, hbo] at hp
        cases bo with
        | true =>
          rw [if_pos rfl] at hp
          exact ⟨none, 0, 0, 4, hp.1, rfl, hp.2⟩
        | false =>
          rw [if_neg (by decide), if_neg (by rw [isS_in HN.out (Int.le_refl 0) (by decide)]; decide)] at hp
          obtain ⟨h, he, hs⟩ := hp
          exact ⟨_, 256, 256, 0, he, rfl, hs.drop⟩
      have HS5 := Aside0.mk hs
      have HER := Aside0.mk her
      clear hs hbo her HS
      go_wp2_with fail
      refine (drive_On.st HS5.out).mono ?_
      rintro e w' ⟨rfl, rfl⟩
      rw [HBO.out]
      go_wp2_with fail
      refine (drive_Crash.st HS5.out (KC.nil _) (Nat.le_refl _) (fun x hx => by cases hx) HST.out).mono ?_
      rintro e w6 ⟨rfl, hs⟩
      have HS6 := Aside0.mk hs
      clear hs HS5
      have HE6 := Aside0.mk (show stepE (crashD D []) = 0 from rfl)
      have HO6 := Aside0.mk (show (crashD D []).off = false from rfl)
      have HN6 := Aside0.mk (show (crashD D []).hs.length = 32 from by unfold crashD; dsimp only; rw [crashL_len]; exact HN.out)
      have HT6 := Aside0.mk (show (crashD D []).steps < 1000000 from HST.out)
      cases bo with
      | true =>
        obtain rfl : er = 4 := HER.out
        go_wp2_with fail
        refine (drive_On.st HS6.out).mono ?_
        rintro e w' ⟨rfl, rfl⟩
        rw [HO6.out]
        go_wp2_with fail
        refine (law03_filled.st HS6.out 5).mono ?_
        rintro e w7 ⟨f7, rfl, hs⟩
        have HS7 := Aside0.mk (St.swap hs)
        clear hs HS6
        go_wp2_with fail
        refine (drive_Write.st HS7.out 0 (fillS_ok 5).2 HT6.out).mono ?_
        intro e w8 hp
        rw [WritePost, if_pos ⟨isS_in HN6.out (Int.le_refl 0) (by decide), (fillS_ok 5).1⟩, if_pos HE6.out] at hp
        obtain ⟨rfl, hs⟩ := hp
        have HS8 := Aside0.mk hs
        clear hs
        go_wp2
        go_ret
        exact ⟨rfl, HS8.out.below⟩
      | false =>
        obtain rfl : er = 0 := HER.out
        go_wp2_with fail
        refine (drive_On.st HS6.out).mono ?_
        rintro e w' ⟨rfl, rfl⟩
        rw [HO6.out]
        go_wp2_with fail
        refine (law03_filled.st HS6.out 5).mono ?_
        rintro e w7 ⟨f7, rfl, hs⟩
        have HS7 := Aside0.mk (St.swap hs)
        clear hs HS6
        go_wp2_with fail
        refine (drive_Write.st HS7.out 0 (fillS_ok 5).2 HT6.out).mono ?_
        intro e w8 hp
        rw [WritePost, if_pos ⟨isS_in HN6.out (Int.le_refl 0) (by decide), (fillS_ok 5).1⟩, if_pos HE6.out] at hp
        obtain ⟨rfl, hs⟩ := hp
        have HS8 := Aside0.mk hs
        clear hs
        go_wp2
        go_ret
        exact ⟨rfl, HS8.out.below⟩
end Go.Proofs.Ytoloibjdiojmlaa.P
