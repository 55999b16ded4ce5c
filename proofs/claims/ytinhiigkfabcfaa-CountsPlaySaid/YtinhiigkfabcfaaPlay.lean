/- CountsPlay's walk. -/
import Derived.Test.YtinhiigkfabcfaaCnt4
namespace Go.Proofs.Ytinhiigkfabcfaa.P
open Go.RowKit Go.Proofs.YtinhiigkfabcfaaW.PrintWords Go.Proofs.YtinhiigkfabcfaaW.PrintLast Go.Proofs.YtinhiigkfabcfaaW.PrintMore Go.Proofs.Ytinhiigkfabcfaa.Sep
set_option linter.unusedVariables false
attribute [local go_sem] max2_int min2_int max_two min_two max_three min_three max_four min_four
theorem kind8 (c : Int) : kindR c 8 = 0 ∨ kindR c 8 = 1 ∨ kindR c 8 = 2 ∨ kindR c 8 = 3 ∨ kindR c 8 = 4 ∨ kindR c 8 = 5 ∨ kindR c 8 = 6 ∨ kindR c 8 = 7 := by
  have := kindR_range c 8 (by decide)
  omega
set_option maxHeartbeats 4000000 in
set_option maxRecDepth 100000 in
theorem CountsPlay_law (z0n : Int) (z1A : Option Addr) (z1c : Nat) (z1l : (List OpC)) (w : World) (h0 : Aside0 ((Lit.int .i64 z0n).wf = true)) (h1 : Aside0 (z1l.length ≤ z1c ∧ Kd.C kOpC w z1A z1l.length z1l ∧ (z1l.length ≤ maxLen ∧ ∀ y0_ ∈ z1l, ((Lit.int .i64 y0_.kind).wf = true ∧ (Lit.int .i64 y0_.a).wf = true)))) :
    Calls Try.prog 6 #[.int .i64 z0n, .slice z1A z1l.length z1c] w fun e w' => e = .returned (.bool true) ∧ Below w.heap.size w w' := by
  have HR := Aside0.mk h1.out.2.1
  have HW := Aside0.mk (fun (o : OpC) (ho : o ∈ z1l) => i64_range (h1.out.2.2.2 o ho).1)
  have HL := Aside0.mk h1.out.2.1.1
  clear h0 h1
  obtain ⟨N, hN⟩ : ∃ N, z1l.length = N := ⟨_, rfl⟩
  have HN := Aside0.mk hN
  rw [hN] at HR ⊢
  clear hN HL
  have HL := HN
  clear HN
  go_enter Try.func6, Try.ntmps6
  go_wp2_with fail
  refine (law08_shown.st (St.start w)).mono ?_
  rintro e w1 ⟨rfl, hs⟩
  have HS1 := Aside0.mk hs
  clear hs
  go_wp2_with fail
  refine (counts_New.st HS1.out z0n).mono ?_
  intro e w2 hp
  have HP := Aside0.mk hp
  clear hp
  by_cases hn : 32 ≤ z0n ∧ z0n ≤ 2048
  · have hp := HP.out
    rw [NewPost, if_pos hn] at hp
    obtain ⟨g0, rfl, hs⟩ := hp
    have HS2 := Aside0.mk hs
    have HNN := Aside0.mk hn
    clear hs HS1 HP hn
    go_wp2_with fail
    refine (ref_New.st HS2.out z0n).mono ?_
    intro e w3 hp
    rw [NewPost, if_pos HNN.out] at hp
    obtain ⟨y, rfl, hs⟩ := hp
    have HS3 := Aside0.mk (St.swap hs)
    clear hs HS2
    generalize z0n.toNat = n at *
    generalize hfi : firstOf n = fi at *
    generalize areas n = ar at *
    clear hfi
    go_wp2_with fail
    go_loopw [6, 10, 11, 12, 13, 14, 15, 16, 17, 18, 19, 20, 72, 93, 103, 126, 132] (fun c i _ _ _ _ _ _ _ _ _ _ _ _ _ _ _ wr => ∃ (j g : Nat) (now done : List Int), c = .pointer (some ⟨g, 0, none⟩) ∧ i = .int .i64 j ∧ j ≤ 60 ∧ Aside0 (St w wr [cnt g n ar fi now done, rcnt y n fi now done])) (fun _ i _ _ _ _ _ _ _ _ _ _ _ _ _ _ _ _ => 60 - (intOf i).toNat)
    case atStart => exact ⟨0, g0, _, _, rfl, rfl, by omega, HS3⟩
    case round =>
      clear HS3
      obtain ⟨j, g, now, done, rfl, rfl, hj, HS⟩ := hrel
      clear hj
      rcases o_both j N with ⟨h1, h2, h3, h4, h5, h6⟩ | ⟨h1, h2, h3⟩ | ⟨h1, h2, h3, h4, h5, h6⟩
      · obtain ⟨ad, rfl, k0, k1⟩ := ops_at HS.out.below HR.out j h1
        have hmem : z1l.getD j ⟨0, 0⟩ ∈ z1l := by
          rw [List.getD_eq_getElem?_getD, List.getElem?_eq_getElem (by rw [HL.out]; exact h1)]
          exact List.getElem_mem _
        have HKR := Aside0.mk (HW.out _ hmem)
        obtain ⟨o, ho⟩ : ∃ o, z1l.getD j ⟨0, 0⟩ = o := ⟨_, rfl⟩
        rw [ho] at k0 k1 HKR
        obtain ⟨ok, oa⟩ := o
        have HJ6 := Aside0.mk h2
        have e1 := Aside0.mk (inc_w j (by omega))
        have hk8 := kind8 ok
        obtain ⟨kk, hkk⟩ : ∃ kk, kindR ok 8 = kk := ⟨_, rfl⟩
        rw [hkk] at hk8
        have HKK := Aside0.mk hkk
        clear hmem ho hkk h1 h2
        go_wp2_with fail
        refine (law08_kind.st ok 8 HKR.out (by decide) (by decide) wr).mono ?_
        rintro e w' ⟨rfl, rfl⟩
        rw [HKK.out]
        clear k0 k1 h3 h4 h5 h6
        rcases hk8 with rfl | rfl | rfl | rfl | rfl | rfl | rfl | rfl
        iterate 2
          · obtain ⟨r, hr⟩ : ∃ r, scan now done fi (n - fi) = r := ⟨_, rfl⟩
            have HRR := Aside0.mk hr
            clear hr
            go_wp2_with fail
            refine (counts_Alloc.st HS.out r HRR.out).mono ?_
            intro e w5 hp
            cases r with
            | some a =>
              obtain ⟨rfl, hs⟩ := hp
              have HS5 := Aside0.mk (St.swap hs)
              clear hs
              go_wp2_with fail
              refine (ref_Alloc.st HS5.out _ HRR.out).mono ?_
              rintro e w6 ⟨rfl, hs⟩
              have HS6 := Aside0.mk (St.swap hs)
              clear hs HS5
              go_wp2_with fail
              exact ⟨⟨j + 1, g, _, _, rfl, by rw [e1.out], HJ6.out, HS6⟩, meas_w j 60 HJ6.out _ e1.out⟩
            | none =>
              obtain ⟨rfl, hs⟩ := hp
              have HS5 := Aside0.mk (St.swap hs)
              clear hs
              go_wp2_with fail
              refine (ref_Alloc.st HS5.out _ HRR.out).mono ?_
              rintro e w6 ⟨rfl, hs⟩
              have HS6 := Aside0.mk (St.swap hs)
              clear hs HS5
              go_wp2_with fail
              exact ⟨⟨j + 1, g, _, _, rfl, by rw [e1.out], HJ6.out, HS6⟩, meas_w j 60 HJ6.out _ e1.out⟩
        iterate 2
          · obtain ⟨x, hx⟩ : ∃ x, getR now oa = x := ⟨_, rfl⟩
            have HX := Aside0.mk hx
            clear hx
            go_wp2_with fail
            refine (counts_Ref.st HS.out oa x HX.out).mono ?_
            intro e w5 hp
            rw [RefPost] at hp
            by_cases h0 : x = 0
            · rw [if_pos h0] at hp
              have H0 := Aside0.mk h0
              clear h0
              obtain ⟨rfl, hs⟩ := hp
              have HS5 := Aside0.mk (St.swap hs)
              clear hs
              go_wp2_with fail
              refine (ref_Ref.st HS5.out oa x HX.out).mono ?_
              intro e w6 hp
              rw [RefPost, if_pos H0.out] at hp
              obtain ⟨rfl, hs⟩ := hp
              have HS6 := Aside0.mk (St.swap hs)
              clear hs HS5
              go_wp2_with fail
              exact ⟨⟨j + 1, g, _, _, rfl, by rw [e1.out], HJ6.out, HS6⟩, meas_w j 60 HJ6.out _ e1.out⟩
            · by_cases h9 : x = 65535
              · rw [if_neg h0, if_pos h9] at hp
                have H0 := Aside0.mk h0
                have H9 := Aside0.mk h9
                clear h0 h9
                obtain ⟨rfl, hs⟩ := hp
                have HS5 := Aside0.mk (St.swap hs)
                clear hs
                go_wp2_with fail
                refine (ref_Ref.st HS5.out oa x HX.out).mono ?_
                intro e w6 hp
                rw [RefPost, if_neg H0.out, if_pos H9.out] at hp
                obtain ⟨rfl, hs⟩ := hp
                have HS6 := Aside0.mk (St.swap hs)
                clear hs HS5
                go_wp2_with fail
                exact ⟨⟨j + 1, g, _, _, rfl, by rw [e1.out], HJ6.out, HS6⟩, meas_w j 60 HJ6.out _ e1.out⟩
              · rw [if_neg h0, if_neg h9] at hp
                have H0 := Aside0.mk h0
                have H9 := Aside0.mk h9
                clear h0 h9
                obtain ⟨rfl, hs⟩ := hp
                have HS5 := Aside0.mk (St.swap hs)
                clear hs
                go_wp2_with fail
                refine (ref_Ref.st HS5.out oa x HX.out).mono ?_
                intro e w6 hp
                rw [RefPost, if_neg H0.out, if_neg H9.out] at hp
                obtain ⟨rfl, hs⟩ := hp
                have HS6 := Aside0.mk (St.swap hs)
                clear hs HS5
                go_wp2_with fail
                exact ⟨⟨j + 1, g, _, _, rfl, by rw [e1.out], HJ6.out, HS6⟩, meas_w j 60 HJ6.out _ e1.out⟩
        iterate 2
          · obtain ⟨x, hx⟩ : ∃ x, getR now oa = x := ⟨_, rfl⟩
            have HX := Aside0.mk hx
            clear hx
            go_wp2_with fail
            refine (counts_Unref.st HS.out oa x HX.out).mono ?_
            intro e w5 hp
            rw [UnrefPost] at hp
            by_cases h0 : x = 0
            · rw [if_pos h0] at hp
              have H0 := Aside0.mk h0
              clear h0
              obtain ⟨rfl, hs⟩ := hp
              have HS5 := Aside0.mk (St.swap hs)
              clear hs
              go_wp2_with fail
              refine (ref_Unref.st HS5.out oa x HX.out).mono ?_
              intro e w6 hp
              rw [UnrefPost, if_pos H0.out] at hp
              obtain ⟨rfl, hs⟩ := hp
              have HS6 := Aside0.mk (St.swap hs)
              clear hs HS5
              go_wp2_with fail
              exact ⟨⟨j + 1, g, _, _, rfl, by rw [e1.out], HJ6.out, HS6⟩, meas_w j 60 HJ6.out _ e1.out⟩
            · rw [if_neg h0] at hp
              have H0 := Aside0.mk h0
              clear h0
              obtain ⟨rfl, hs⟩ := hp
              have HS5 := Aside0.mk (St.swap hs)
              clear hs
              go_wp2_with fail
              refine (ref_Unref.st HS5.out oa x HX.out).mono ?_
              intro e w6 hp
              rw [UnrefPost, if_neg H0.out] at hp
              obtain ⟨rfl, hs⟩ := hp
              have HS6 := Aside0.mk (St.swap hs)
              clear hs HS5
              go_wp2_with fail
              exact ⟨⟨j + 1, g, _, _, rfl, by rw [e1.out], HJ6.out, HS6⟩, meas_w j 60 HJ6.out _ e1.out⟩
        · go_wp2_with fail
          refine (counts_Commit.st HS.out).mono ?_
          rintro e w5 ⟨rfl, hs⟩
          have HS5 := Aside0.mk (St.swap hs)
          clear hs
          go_wp2_with fail
          refine (ref_Commit.st HS5.out).mono ?_
          rintro e w6 ⟨rfl, hs⟩
          have HS6 := Aside0.mk (St.swap hs)
          clear hs HS5
          go_wp2_with fail
          exact ⟨⟨j + 1, g, _, _, rfl, by rw [e1.out], HJ6.out, HS6⟩, meas_w j 60 HJ6.out _ e1.out⟩
        · go_wp2_with fail
          refine (counts_Clone.st HS.out).mono ?_
          rintro e w5 ⟨g', rfl, hs⟩
          have HS5 := Aside0.mk (St.swap hs)
          clear hs
          go_wp2_with fail
          refine (counts_Alloc.st HS5.out _ rfl).mono ?_
          intro e w6 hp
          obtain ⟨v6, rfl, hs⟩ := hp.to
          generalize allocS fi n (now, done) = t6 at hs
          have HS6 := Aside0.mk hs
          clear hs hp HS5
          go_wp2_with fail
          refine (counts_Unref.st HS6.out oa _ rfl).mono ?_
          intro e w7 hp
          obtain ⟨v7, rfl, hs⟩ := hp.to
          generalize unrefS oa (t6.1, t6.2) = t7 at hs
          have HS7 := Aside0.mk hs
          clear hs hp HS6
          go_wp2_with fail
          refine (counts_Commit.st HS7.out).mono ?_
          rintro e w8 ⟨rfl, hs⟩
          have HS8 := Aside0.mk hs.drop
          clear hs HS7
          go_wp2_with fail
          exact ⟨⟨j + 1, g', _, _, rfl, by rw [e1.out], HJ6.out, HS8⟩, meas_w j 60 HJ6.out _ e1.out⟩
      · go_wp2_with fail
        refine (law08_alike.st HS.out).mono ?_
        rintro e w' ⟨rfl, rfl⟩
        go_wp2
        go_ret
        exact ⟨rfl, HS.out.below⟩
      · go_wp2_with fail
        refine (law08_alike.st HS.out).mono ?_
        rintro e w' ⟨rfl, rfl⟩
        go_wp2
        go_ret
        exact ⟨rfl, HS.out.below⟩
  · have hp := HP.out
    rw [NewPost, if_neg hn] at hp
    obtain ⟨rfl, hs⟩ := hp
    have HS2 := Aside0.mk hs
    have HNN := Aside0.mk hn
    clear hs HS1 HP hn
    go_wp2_with fail
    refine (ref_New.st HS2.out z0n).mono ?_
    intro e w3 hp
    rw [NewPost, if_neg HNN.out] at hp
    obtain ⟨rfl, hs⟩ := hp
    have HS3 := Aside0.mk hs
    clear hs HS2
    go_wp2_with fail
    go_loopw [6, 10, 11, 12, 13, 14, 15, 16, 17, 18, 19, 20, 72, 93, 103, 126, 132] (fun c i _ _ _ _ _ _ _ _ _ _ _ _ _ _ _ wr => i = .int .i64 0 ∧ w3 = wr) (fun _ i _ _ _ _ _ _ _ _ _ _ _ _ _ _ _ _ => 60 - (intOf i).toNat)
    case atStart => exact ⟨rfl, rfl⟩
    case round =>
      obtain ⟨rfl, rfl⟩ := hrel
      by_cases hN : 0 < N
      · have h3 : decide ((0 : Int) < (N : Int)) = true := decide_eq_true (by omega)
        have h4 : (0 : Int) < (N : Int) := by omega
        go_wp2
        go_ret
        exact ⟨rfl, HS3.out.below⟩
      · have h3 : decide ((0 : Int) < (N : Int)) = false := decide_eq_false (by omega)
        have h4 : ¬ (0 : Int) < (N : Int) := by omega
        go_wp2
        go_ret
        exact ⟨rfl, HS3.out.below⟩
end Go.Proofs.Ytinhiigkfabcfaa.P
