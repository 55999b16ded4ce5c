/- DriveBad's walk. -/
import Derived.Test.YtoloibjdiojmlaaDrv8
namespace Go.Proofs.Ytoloibjdiojmlaa.P
open Go.RowKit Go.Proofs.YtoloibjdiojmlaaW.PrintWords Go.Proofs.YtoloibjdiojmlaaW.PrintLast Go.Proofs.YtoloibjdiojmlaaW.PrintMore Go.Proofs.Ytoloibjdiojmlaa.Sep
set_option linter.unusedVariables false
set_option linter.unusedSimpArgs false
attribute [local go_sem] max2_int min2_int max_two min_two max_three min_three max_four min_four
theorem zeros_bytes (k : Nat) : ∀ y ∈ List.replicate k (0 : Int), 0 ≤ y ∧ y < 256 := fun y hy => by rw [List.eq_of_mem_replicate hy]; decide
theorem put_steps (D : DV) (h0 : stepE D = 0) (i : Nat) (x : List Int) : (putD (stepD D) i x).steps = D.steps + 1 := by
  have hne : ¬ (D.off = true ∨ D.fuse = 0) := fun q => by unfold stepE at h0; rw [if_pos q] at h0; cases h0
  unfold putD stepD
  rw [if_neg hne]
theorem cnt_corrupt (D : DV) (i j : Nat) (m : Int) : cntT (corruptD D i j m).ts = cntT D.ts := by
  unfold corruptD
  dsimp only
  by_cases hi : i < D.ts.length
  · have h := cnt_set hi ((D.ts.getD i []).map (turnS j m))
    by_cases q : D.ts.getD i [] = []
    · rw [if_pos q, if_pos (by rw [q]; rfl)] at h; omega
    · rw [if_neg q, if_neg (by simpa using q)] at h; omega
  · rw [List.set_eq_of_length_le (by omega)]
theorem cnt_put40 (i : Nat) (h : i < 40) (x : List Int) : cntT (putD (stepD (newD 40)) i x).ts = 1 := by
  have hl : i < (stepD (newD 40)).ts.length := by rw [stepD_ts]; unfold newD; rw [List.length_replicate]; exact h
  have hg : (stepD (newD 40)).ts.getD i [] = [] := by rw [stepD_ts]; unfold newD; rw [List.getD_eq_getElem?_getD, List.getElem?_replicate]; split <;> rfl
  have h1 := cnt_set hl ((stepD (newD 40)).ts.getD i [] ++ [x])
  rw [hg, if_pos rfl, if_neg (by simp)] at h1
  have h2 : cntT (stepD (newD 40)).ts = 0 := by rw [stepD_ts]; exact cnt_none 40
  unfold putD
  dsimp only
  rw [hg]
  omega
def turnsB (a b : Int) : Bool := ((decide (0 ≤ a) && decide (a < 256)) && decide (0 ≤ b)) && decide (b < 256)
set_option maxHeartbeats 8000000 in
set_option maxRecDepth 100000 in
theorem DriveBad_law (z0n : Int) (z1n : Int) (z2f0_n : Int) (z2f1_n : Int) (w : World) (h0 : Aside0 ((Lit.int .i64 z0n).wf = true)) (h1 : Aside0 ((Lit.int .i64 z1n).wf = true)) (h2 : Aside0 ((Lit.int .i64 z2f0_n).wf = true ∧ (Lit.int .i64 z2f1_n).wf = true)) :
    Calls Try.prog 7 #[.int .i64 z0n, .int .i64 z1n, .agg #[.int .i64 z2f0_n, .int .i64 z2f1_n]] w fun e w' => e = .returned (.bool true) ∧ Below w.heap.size w w' := by
  have HK := Aside0.mk (i64_range h1.out)
  clear h0 h1 h2
  obtain ⟨s, hs_⟩ : ∃ s, z0n = s := ⟨_, rfl⟩
  obtain ⟨a, ha_⟩ : ∃ a, z2f0_n = a := ⟨_, rfl⟩
  obtain ⟨b, hb_⟩ : ∃ b, z2f1_n = b := ⟨_, rfl⟩
  subst hs_ ha_ hb_
  have HS0 := Aside0.mk ((St.start w).alloc_ #[.int .i64 z2f0_n, .int .i64 z2f1_n] 31)
  go_enter Try.func7, Try.ntmps7
  go_wp2_with fail
  refine (law03_shown.st HS0.out).mono ?_
  rintro e w1 ⟨rfl, hs⟩
  have HS1 := Aside0.mk hs
  clear hs HS0
  go_wp2_with fail
  refine (drive_New.st HS1.out 40).mono ?_
  intro e w2 hp
  rw [NewPost, if_pos (by decide)] at hp
  obtain ⟨g, rfl, hs⟩ := hp
  have HS2 := Aside0.mk (show St w w2 (drv g (newD 40) :: _) from hs)
  clear hs HS1
  obtain ⟨gb, hgb⟩ : ∃ gb, w.heap.size = gb := ⟨_, rfl⟩
  rw [hgb] at HS2
  have HGB := Aside0.mk hgb
  obtain ⟨bi, hbi⟩ : ∃ bi, isS (newD 40) z0n = bi := ⟨_, rfl⟩
  have HBI := Aside0.mk hbi
  clear hbi
  go_upto_region 5 with fail
  go_cut [10] (fun v wx => v = .bool bi ∧ wx = w2)
  case first =>
    have hbi : (decide (0 ≤ z0n) && decide (z0n < 40)) = bi := by rw [← HBI.out]; rfl
    by_cases c1 : 0 ≤ z0n
    · have h1 : decide (z0n ≥ 0) = true := decide_eq_true c1
      have h1' : decide (0 ≤ z0n) = true := decide_eq_true c1
      rw [h1', Bool.true_and] at hbi
      go_wp2
      go_meet
      exact ⟨rfl, rfl⟩
    · have h1 : decide (z0n ≥ 0) = false := decide_eq_false c1
      have h1' : decide (0 ≤ z0n) = false := decide_eq_false c1
      rw [h1', Bool.false_and] at hbi
      subst hbi
      go_wp2
      go_meet
      exact ⟨rfl, rfl⟩
  case rest =>
    obtain ⟨rfl, rfl⟩ := hcut
    go_wp2_with fail
    refine (law03_kind.st z1n 301 HK.out (by decide) (by decide) _).mono ?_
    rintro e w' ⟨rfl, rfl⟩
    obtain ⟨k, hk, hk301⟩ : ∃ k : Nat, kindR z1n 301 = k ∧ k < 301 := ⟨(kindR z1n 301).toNat, by have := kindR_range z1n 301 (by decide); omega, by have := kindR_range z1n 301 (by decide); omega⟩
    rw [hk]
    clear hk
    have HK301 := Aside0.mk hk301
    go_wp2_with fail
    refine (drive_Read.st HS2.out z0n).mono ?_
    intro e w3 hp
    obtain ⟨A3, n3, c3, er, rfl, her, qs, hs⟩ : ∃ (A3 : Option Addr) (n3 c3 : Nat) (er : Int), e = .returned (.tuple #[.slice A3 n3 c3, .int .i64 er]) ∧ er = (if bi then 0 else 1) ∧ ∃ qs, St w w3 (drv g (newD 40) :: qs ++ [blk gb #[.int .i64 z2f0_n, .int .i64 z2f1_n] 31]) := by
      rw [ReadPost, if_neg (by decide), HBI.out] at hp
      cases bi with
      | false =>
        rw [if_pos rfl] at hp
        exact ⟨none, 0, 0, 1, hp.1, rfl, [], hp.2⟩
      | true =>
        rw [if_neg (by decide)] at hp
        obtain ⟨h, he, hs⟩ := hp
        exact ⟨_, 256, 256, 0, he, rfl, [_], hs.swap⟩
    have HS3 := Aside0.mk hs
    have HER := Aside0.mk her
    clear hs her HS2
    have hmk := print_make_of (P := Try.prog) 33 5 (.int .u8 0) 1 Try.underlying33 infou8 rfl (by decide) k (by omega)
    have HS4 := Aside0.mk (St.swap (HS3.out.row_made (enc := Value.int .u8) (h1 := fun _ => rfl) (z := (0 : Int)) 5 k (by omega)))
    go_wp2_with fail
    refine (drive_Write.st HS4.out z0n (zeros_bytes k) (by decide)).mono ?_
    intro e w5 hp
    obtain ⟨bm, hbm⟩ : ∃ bm, (bi && ((k : Int) == 256)) = bm := ⟨_, rfl⟩
    obtain ⟨D5, hs5, hst5, hct5, hln5, rfl⟩ : ∃ D5 : DV, (∃ qs', St w w5 (drv g D5 :: qs' ++ [blk gb #[.int .i64 z2f0_n, .int .i64 z2f1_n] 31])) ∧ D5.steps = (if bm then 1 else 0) ∧ cntT D5.ts = (if bm then 1 else 0) ∧ D5.hs.length = 40 ∧ e = .returned (.int .i64 (if bm then 0 else 1)) := by
      cases hb : bm with
      | true =>
        rw [hb] at hbm
        simp only [Bool.and_eq_true, beq_iff_eq] at hbm
        obtain ⟨q1, q2⟩ := hbm
        have hi := HBI.out
        rw [q1] at hi
        have hir : 0 ≤ z0n ∧ z0n < 40 := by
          unfold isS at hi
          simpa [newD] using hi
        rw [WritePost, if_pos ⟨hi, by rw [List.length_replicate]; omega⟩, if_pos (by decide)] at hp
        exact ⟨_, ⟨_ :: qs, hp.2⟩, put_steps (newD 40) (by decide) _ _, cnt_put40 _ (by omega) _, by unfold putD; dsimp only; rw [stepD_hs]; unfold newD; rw [List.length_replicate], hp.1⟩
      | false =>
        rw [hb] at hbm
        rw [WritePost, if_neg (fun q => by
          have q1 : bi = true := by rw [← HBI.out]; exact q.1
          have q2 : (k : Int) = 256 := by have := q.2; rw [List.length_replicate] at this; omega
          rw [q1, q2] at hbm
          cases hbm)] at hp
        exact ⟨_, ⟨_ :: qs, hp.2⟩, rfl, cnt_none 40, by unfold newD; rw [List.length_replicate], hp.1⟩
    obtain ⟨qs5, hs5⟩ := hs5
    have HS5 := Aside0.mk hs5
    have HST5 := Aside0.mk hst5
    have HCT5 := Aside0.mk hct5
    have HBI5 := Aside0.mk (show isS D5 z0n = bi from by rw [← HBI.out]; unfold isS newD; rw [hln5, List.length_replicate])
    have HBM := Aside0.mk hbm
    obtain ⟨ew, hew⟩ : ∃ ew : Int, (if bm then 0 else 1) = ew := ⟨_, rfl⟩
    rw [hew]
    have HEW := Aside0.mk hew
    clear hp hs5 hst5 hct5 hln5 hbm hew hmk HS3 HS4
    go_upto_region 9 with fail
    go_cut [15] (fun v wx => v = .bool bm ∧ wx = w5)
    case first =>
      have hbm := HBM.out
      cases bi with
      | false =>
        rw [Bool.false_and] at hbm
        subst hbm
        go_wp2
        go_meet
        exact ⟨rfl, rfl⟩
      | true =>
        rw [Bool.true_and] at hbm
        go_wp2
        go_meet
        exact ⟨rfl, rfl⟩
    case rest =>
      obtain ⟨rfl, rfl⟩ := hcut
      have hbk : ∀ W, (∃ D qs, St w W (drv g D :: qs ++ [blk gb #[.int .i64 z2f0_n, .int .i64 z2f1_n] 31])) → W.cell? ⟨gb, 0, none⟩ = some (.int .i64 z2f0_n) ∧ W.cell? ⟨gb, 1, none⟩ = some (.int .i64 z2f1_n) := fun W ⟨D, qs, H⟩ => by
        have h9 := St.drop_to (drv g D :: qs) H
        exact ⟨blk_cell h9.blk_is 0, blk_cell h9.blk_is 1⟩
      have HBK := Aside0.mk hbk
      obtain ⟨b0, b1⟩ := hbk wc ⟨_, _, HS5.out⟩
      clear hbk
      go_wp2_with fail
      refine (drive_Corrupt.st HS5.out z0n z2f0_n z2f1_n).mono ?_
      intro e w6 hp
      obtain ⟨bt, hbt⟩ : ∃ bt, (bi && turnsB z2f0_n z2f1_n) = bt := ⟨_, rfl⟩
      have hmay : mayC D5 z0n z2f0_n z2f1_n ↔ bt = true := by
        rw [← hbt]
        unfold mayC turnsB
        rw [HBI5.out]
        simp only [Bool.and_eq_true, decide_eq_true_eq]
        constructor
        · rintro ⟨q1, ⟨q2, q3⟩, q4, q5⟩; exact ⟨q1, ⟨⟨q2, q3⟩, q4⟩, by omega⟩
        · rintro ⟨q1, ⟨⟨q2, q3⟩, q4⟩, q5⟩; exact ⟨q1, ⟨q2, q3⟩, q4, by omega⟩
      obtain ⟨D6, hs6, hst6, hct6, rfl⟩ : ∃ D6 : DV, St w w6 (drv g D6 :: qs5 ++ [blk gb #[.int .i64 z2f0_n, .int .i64 z2f1_n] 31]) ∧ D6.steps = (if bm then 1 else 0) ∧ cntT D6.ts = (if bm then 1 else 0) ∧ e = .returned (.int .i64 (if bt then 0 else 1)) := by
        cases hb : bt with
        | true =>
          obtain ⟨q1, q2⟩ := hp.1 (hmay.2 hb)
          exact ⟨_, q2, HST5.out, by rw [cnt_corrupt]; exact HCT5.out, q1⟩
        | false =>
          obtain ⟨q1, q2⟩ := hp.2 (fun q => by rw [hmay.1 q] at hb; cases hb)
          exact ⟨_, q2, HST5.out, HCT5.out, q1⟩
      obtain ⟨b0, b1⟩ := HBK.out w6 ⟨_, _, hs6⟩
      have HS6 := Aside0.mk hs6
      have HST6 := Aside0.mk hst6
      have HCT6 := Aside0.mk hct6
      have HBT := Aside0.mk hbt
      obtain ⟨et, het⟩ : ∃ et : Int, (if bt then 0 else 1) = et := ⟨_, rfl⟩
      rw [het]
      have HET := Aside0.mk het
      clear hp hs6 hst6 hct6 hbt het hmay
      go_upto_region 11 with fail
      go_cut [17] (fun v wx => v = .bool bt ∧ wx = w6)
      case first =>
        have hbt := HBT.out
        clear HS5 HS6
        cases bi with
        | false =>
          rw [Bool.false_and] at hbt
          subst hbt
          go_wp2
          go_meet
          exact ⟨rfl, rfl⟩
        | true =>
          rw [Bool.true_and] at hbt
          unfold turnsB at hbt
          by_cases c1 : 0 ≤ z2f0_n
          · have h1 : decide (z2f0_n ≥ 0) = true := decide_eq_true c1
            rw [show decide (0 ≤ z2f0_n) = true from h1] at hbt
            by_cases c2 : z2f0_n < 256
            · have h2 : decide (z2f0_n < 256) = true := decide_eq_true c2
              rw [h2] at hbt
              by_cases c3 : 0 ≤ z2f1_n
              · have h3 : decide (z2f1_n ≥ 0) = true := decide_eq_true c3
                rw [show decide (0 ≤ z2f1_n) = true from h3] at hbt
                have hbt : decide (z2f1_n < 256) = bt := by simpa using hbt
                go_wp2
                go_meet
                exact ⟨rfl, rfl⟩
              · have h3 : decide (z2f1_n ≥ 0) = false := decide_eq_false c3
                rw [show decide (0 ≤ z2f1_n) = false from h3] at hbt
                obtain rfl : false = bt := by simpa using hbt
                go_wp2
                go_meet
                exact ⟨rfl, rfl⟩
            · have h2 : decide (z2f0_n < 256) = false := decide_eq_false c2
              rw [h2] at hbt
              obtain rfl : false = bt := by simpa using hbt
              go_wp2
              go_meet
              exact ⟨rfl, rfl⟩
          · have h1 : decide (z2f0_n ≥ 0) = false := decide_eq_false c1
            rw [show decide (0 ≤ z2f0_n) = false from h1] at hbt
            obtain rfl : false = bt := by simpa using hbt
            go_wp2
            go_meet
            exact ⟨rfl, rfl⟩
      case rest =>
        obtain ⟨rfl, rfl⟩ := hcut
        have her := HER.out
        have hew := HEW.out
        have het := HET.out
        have hst := HST6.out
        have hct := HCT6.out
        clear b0 b1 HS5
        cases bm with
        | true =>
          obtain rfl : bi = true := by
            have := HBM.out
            cases bi with
            | true => rfl
            | false => cases this
          rw [if_pos rfl] at hew hst hct her
          subst hew her
          cases bt with
          | true =>
            rw [if_pos rfl] at het
            subst het
            go_wp2_with fail
            refine (drive_Steps.st HS6.out).mono ?_
            rintro e w' ⟨rfl, rfl⟩
            rw [hst]
            go_wp2_with fail
            refine (drive_Cached.st HS6.out).mono ?_
            rintro e w' ⟨rfl, rfl⟩
            rw [hct]
            go_wp2
            go_ret
            exact ⟨rfl, HS6.out.below⟩
          | false =>
            rw [if_neg (by decide)] at het
            subst het
            go_wp2_with fail
            refine (drive_Steps.st HS6.out).mono ?_
            rintro e w' ⟨rfl, rfl⟩
            rw [hst]
            go_wp2_with fail
            refine (drive_Cached.st HS6.out).mono ?_
            rintro e w' ⟨rfl, rfl⟩
            rw [hct]
            go_wp2
            go_ret
            exact ⟨rfl, HS6.out.below⟩
        | false =>
          rw [if_neg (by decide)] at hew hst hct
          subst hew
          cases bi with
          | true =>
            rw [if_pos rfl] at her
            subst her
            cases bt with
            | true =>
              rw [if_pos rfl] at het
              subst het
              go_wp2_with fail
              refine (drive_Steps.st HS6.out).mono ?_
              rintro e w' ⟨rfl, rfl⟩
              rw [hst]
              go_wp2_with fail
              refine (drive_Cached.st HS6.out).mono ?_
              rintro e w' ⟨rfl, rfl⟩
              rw [hct]
              go_wp2
              go_ret
              exact ⟨rfl, HS6.out.below⟩
            | false =>
              rw [if_neg (by decide)] at het
              subst het
              go_wp2_with fail
              refine (drive_Steps.st HS6.out).mono ?_
              rintro e w' ⟨rfl, rfl⟩
              rw [hst]
              go_wp2_with fail
              refine (drive_Cached.st HS6.out).mono ?_
              rintro e w' ⟨rfl, rfl⟩
              rw [hct]
              go_wp2
              go_ret
              exact ⟨rfl, HS6.out.below⟩
          | false =>
            rw [if_neg (by decide)] at her
            subst her
            obtain rfl : bt = false := by
              have := HBT.out
              rw [Bool.false_and] at this
              exact this.symm
            rw [if_neg (by decide)] at het
            subst het
            go_wp2_with fail
            refine (drive_Steps.st HS6.out).mono ?_
            rintro e w' ⟨rfl, rfl⟩
            rw [hst]
            go_wp2_with fail
            refine (drive_Cached.st HS6.out).mono ?_
            rintro e w' ⟨rfl, rfl⟩
            rw [hct]
            go_wp2
            go_ret
            exact ⟨rfl, HS6.out.below⟩
end Go.Proofs.Ytoloibjdiojmlaa.P
