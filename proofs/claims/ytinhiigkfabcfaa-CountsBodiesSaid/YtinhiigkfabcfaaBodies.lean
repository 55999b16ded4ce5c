/- CountsBodies' walk. -/
import Derived.Test.YtinhiigkfabcfaaCnt7
import Derived.Test.YtinhiigkfabcfaaBack
namespace Go.Proofs.Ytinhiigkfabcfaa.P
open Go.RowKit Go.Proofs.YtinhiigkfabcfaaW.PrintWords Go.Proofs.YtinhiigkfabcfaaW.PrintLast Go.Proofs.YtinhiigkfabcfaaW.PrintMore Go.Proofs.Ytinhiigkfabcfaa.Sep Go.Proofs.Ytinhiigkfabcfaa.NumLem
set_option linter.unusedVariables false
attribute [local go_sem] max2_int min2_int max_two min_two max_three min_three max_four min_four
theorem u8_range {c : Int} (h : (Lit.int .u8 c).wf = true) : 0 ≤ c ∧ c < 256 := by
  have e1 : IntKind.u8.min = 0 := rfl
  have e2 : IntKind.u8.max = 255 := rfl
  simp [Lit.wf] at h
  omega
theorem bodyI_len (ar : Nat) (now : List Int) (i : Int) : (bodyI ar now i).length ≤ 236 := by
  unfold bodyI
  split
  · rw [bodyK_length]; decide
  · exact Nat.zero_le _
set_option maxHeartbeats 4000000 in
set_option maxRecDepth 100000 in
theorem CountsBodies_law (z0n : Int) (z1A : Option Addr) (z1c : Nat) (z1l : (List OpC)) (z2A : Option Addr) (z2c : Nat) (z2l : (List (List Int))) (w : World) (h0 : Aside0 ((Lit.int .i64 z0n).wf = true)) (h1 : Aside0 (z1l.length ≤ z1c ∧ Kd.C kOpC w z1A z1l.length z1l ∧ (z1l.length ≤ maxLen ∧ ∀ y0_ ∈ z1l, ((Lit.int .i64 y0_.kind).wf = true ∧ (Lit.int .i64 y0_.a).wf = true)))) (h2 : Aside0 (z2l.length ≤ z2c ∧ Kd.C (Kd.slice 5 (Kd.int .u8)) w z2A z2l.length z2l ∧ (z2l.length ≤ maxLen ∧ ∀ y0_ ∈ z2l, (y0_.length ≤ maxLen ∧ ∀ y1_ ∈ y0_, (Lit.int .u8 y1_).wf = true)))) :
    Calls Try.prog 7 #[.int .i64 z0n, .slice z1A z1l.length z1c, .slice z2A z2l.length z2c] w fun e w' => e = .returned (.bool true) ∧ Below w.heap.size w w' := by
  have HR := Aside0.mk h1.out.2.1
  have HW := Aside0.mk (fun (o : OpC) (ho : o ∈ z1l) => i64_range (h1.out.2.2.2 o ho).1)
  have HA := Aside0.mk (i64_range h0.out)
  have HRB := Aside0.mk h2.out.2.1
  have HBB : Aside0 (∀ b ∈ z2l, Bytes b) := ⟨fun b hb x hx => by
    have h := (h2.out.2.2.2 b hb).2 x hx
    exact u8_range h⟩
  clear h0 h1 h2
  obtain ⟨N, hN⟩ : ∃ N, z1l.length = N := ⟨_, rfl⟩
  rw [hN] at HR ⊢
  clear hN
  obtain ⟨M, hM⟩ : ∃ M, z2l.length = M := ⟨_, rfl⟩
  rw [hM] at HRB ⊢
  clear hM
  have hr := kindR_range z0n 2017 (by decide)
  obtain ⟨r, hrr⟩ : ∃ r, kindR z0n 2017 = r := ⟨_, rfl⟩
  rw [hrr] at hr
  obtain ⟨hr0, hr1⟩ := hr
  obtain ⟨k, hk⟩ : ∃ k : Nat, 32 + r = (k : Int) := ⟨(32 + r).toNat, by omega⟩
  have HK := Aside0.mk (show 32 ≤ k ∧ k ≤ 2048 from by omega)
  have HRR := Aside0.mk hrr
  have HKE := Aside0.mk hk
  clear hrr hk
  have HFI := Aside0.mk (show 4 ≤ firstOf k ∧ firstOf k < k ∧ areas k ≤ 18 from by have := HK.out; unfold firstOf areas; omega)
  go_enter Try.func7, Try.ntmps7
  go_wp2_with fail
  refine (law08_shown.st (St.start w)).mono ?_
  rintro e w1 ⟨rfl, hs⟩
  have HS1 := Aside0.mk hs
  clear hs
  go_wp2_with fail
  refine (law08_kind.st z0n 2017 HA.out (by decide) (by decide) w1).mono ?_
  rintro e w' ⟨rfl, rfl⟩
  rw [HRR.out]
  go_wp2_with fail
  rw [HKE.out]
  clear hr0 hr1
  refine (counts_New.st HS1.out (k : Int)).mono ?_
  intro e w2 hp
  rw [NewPost, if_pos (by have := HK.out; omega), Int.toNat_natCast] at hp
  obtain ⟨g, rfl, hs⟩ := hp
  have HS2 := Aside0.mk hs
  clear hs HS1
  go_wp2_with fail
  refine (ref_New.st HS2.out (k : Int)).mono ?_
  intro e w3 hp
  rw [NewPost, if_pos (by have := HK.out; omega), Int.toNat_natCast] at hp
  obtain ⟨y, rfl, hs⟩ := hp
  have HS3 := Aside0.mk (St.swap hs)
  clear hs HS2
  go_wp2_with fail
  refine (law08_play.st (s := (List.replicate k 0, List.replicate k 0)) HS3.out HR.out HW.out).mono ?_
  rintro e w4 ⟨rfl, hs⟩
  have HS4 := Aside0.mk (St.swap hs)
  clear hs HS3
  go_wp2_with fail
  refine (law08_playRef.st (s := (List.replicate k 0, List.replicate k 0)) HS4.out HR.out HW.out).mono ?_
  rintro e w5 ⟨rfl, hs⟩
  have HLO := Aside0.mk (Low.playR (fi := firstOf k) (n := k) (l := z1l) (s := (List.replicate k 0, List.replicate k 0)) (Low.zeros _ _) (by simp))
  have hs2 := hs.swap
  clear hs HS4
  generalize playR (firstOf k) k z1l (List.replicate k 0, List.replicate k 0) = s at *
  obtain ⟨now, done⟩ := s
  have HS5 := Aside0.mk (show St w w5 [cnt g k (areas k) (firstOf k) now done, rcnt y k (firstOf k) now done] from hs2)
  have HCP := Aside0.mk (cnt_out HS5.out).1
  clear hs2
  go_wp2_with fail
  refine (ref_Areas.st k HK.out.2 w5).mono ?_
  rintro e w' ⟨rfl, rfl⟩
  have HE := Aside0.mk (show St w (w5.alloc (.cells #[] 52)) (row (Kd.slice 5 (Kd.int .u8)) 52 (.slice (some ⟨w5.heap.size, 0, none⟩) 0 0) ([] : List (List Int)) :: [cnt g k (areas k) (firstOf k) now done, rcnt y k (firstOf k) now done]) from HS5.out.row_none _)
  have HLB := Aside0.mk (load_back HCP.out.cn HCP.out.ln HLO.out)
  obtain ⟨fi, hfi⟩ : ∃ fi, firstOf k = fi := ⟨_, rfl⟩
  obtain ⟨ar, har⟩ : ∃ ar, areas k = ar := ⟨_, rfl⟩
  have HFE := Aside0.mk hfi
  have HAE := Aside0.mk har
  rw [hfi, har] at HE HLB HFI
  rw [hfi] at HCP HLO
  rw [hfi, har]
  clear hfi har HS5
  go_wp2_with fail
  go_loopw [15, 16, 17] (fun v i _ wr => ∃ (a q c : Nat) (A : Option Addr), i = .int .i64 ((a : Int) - 1) ∧ a ≤ ar + 2 ∧ Aside0 (q = min (a - 1) ar) ∧ v = .slice A q c ∧ Aside0 (St w wr [row (Kd.slice 5 (Kd.int .u8)) 52 (.slice A q c) (bodies now 0 q), cnt g k ar fi now done, rcnt y k fi now done])) (fun _ i _ _ => ar + 2 - (intOf i + 1).toNat)
  case atStart => exact ⟨0, 0, 0, _, rfl, by omega, ⟨by omega⟩, rfl, HE⟩
  case round =>
    clear HE
    obtain ⟨a, q, c, A, rfl, ha, HQ, rfl, HS⟩ := hrel
    obtain ⟨b, hb⟩ : ∃ b, b = (a : Int) - 1 := ⟨_, rfl⟩
    rw [← hb]
    have HB := Aside0.mk hb
    have HAA := Aside0.mk ha
    by_cases hlt : b ≤ ar
    · have h1 : decide (b ≤ (ar : Int)) = true := decide_eq_true hlt
      have HLT := Aside0.mk hlt
      have e1 := Aside0.mk (show wrap64 (b + 1) = ((a + 1 : Nat) : Int) - 1 from by have := HFI.out; unfold wrap64; omega)
      have HM := Aside0.mk (show ar + 2 - (((a + 1 : Nat) : Int) - 1 + 1).toNat < ar + 2 - (b + 1).toNat from by omega)
      have HLA := Aside0.mk (show a + 1 ≤ ar + 2 from by omega)
      clear hb ha
      go_wp2_with fail
      refine (counts_Body.st HS.out.swap (by have := HFI.out; omega) b).mono ?_
      rintro e w6 ⟨v6, rfl, hs⟩
      obtain ⟨A6, c6, he6⟩ := hs.row_slice
      obtain ⟨bd, hbd⟩ : ∃ bd, bodyI ar now b = bd := ⟨_, rfl⟩
      have HBD := Aside0.mk hbd
      rw [hbd] at hs he6
      obtain ⟨L, hL⟩ : ∃ L, bd.length = L := ⟨_, rfl⟩
      have HL := Aside0.mk hL
      rw [hL] at he6
      subst he6
      have HS6 := Aside0.mk hs
      have t6 := hs.row_string Try.underlying52 Try.underlying5 Try.underlying9
      have t6d := hs.drew.row_string Try.underlying52 Try.underlying5 Try.underlying9
      clear hs HS h1 hlt hbd hL
      go_wp2_with fail
      go_region_with (first
        | (go_at_call 30; refine (ref_Body.st (HS6.out.front 3).drew (by have := HFI.out; rw [HAE.out]; omega) b).mono ?_; rintro e w7 ⟨v7, rfl, hs⟩; rw [HAE.out, HBD.out] at hs; obtain ⟨A7, c7, he7⟩ := hs.row_slice; rw [HL.out] at he7; subst he7; have HS7 := Aside0.mk hs; have t7 := hs.row_string Try.underlying52 Try.underlying5 Try.underlying9; have t7b := (hs.front 2).row_string Try.underlying52 Try.underlying5 Try.underlying9; clear hs))
      all_goals
        clear t6 t6d t7 t7b
        have HS8 := Aside0.mk (show St w w7 [row (Kd.int .u8) 5 (.slice A6 L c6) bd, row (Kd.slice 5 (Kd.int .u8)) 52 (.slice A q c) (bodies now 0 q), cnt g k ar fi now done, rcnt y k fi now done] from St.front 3 (St.front 3 (St.front 2 (St.drop HS7.out))))
        clear HS6 HS7
        by_cases h3 : b ≥ 0
        · by_cases h4 : b < ar
          · have HBI := Aside0.mk (show bd = bodyK now q 118 ∧ a = q + 1 from by
              have hq := HQ.out
              have hb := HB.out
              have h5 : q = b.toNat := by omega
              rw [← HBD.out]; unfold bodyI; rw [if_pos (by omega), h5]; exact ⟨rfl, by omega⟩)
            have HLL := Aside0.mk (show ((bodies now 0 q).length + 1) * 24 ≤ 140737488355328 from by have := HFI.out; have := HQ.out; rw [bodies_length]; omega)
            have h5 : decide (b ≥ 0) = true := decide_eq_true h3
            have h6 : decide (b < (ar : Int)) = true := decide_eq_true h4
            go_wp2_with (first | ((with_reducible refine gate_builtin (b := .append) (xs := #[.tmp 82, .tmp 84]) rfl ?_); at_builtin; refine St.append_one (d := Kd.int .u8) rfl (.tmp 82) (.tmp 84) 50 52 (.slice none 0 0) 24 rfl Try.underlying50 info52 rfl (by decide) _ _ (bodies now 0 q) bd rfl rfl HS8.out.swap HLL.out ?_; intro v9 w9 hs9; obtain ⟨A9, c9, he9⟩ := hs9.row_slice; rw [List.length_append, bodies_length] at he9; subst he9; have HS9 := Aside0.mk hs9; clear hs9))
            refine ⟨⟨a + 1, q + 1, c9, A9, by rw [e1.out], HLA.out, ⟨?_⟩, rfl, ⟨?_⟩⟩, ?_⟩
            · have := HQ.out; have := HB.out; have := HBI.out.2; omega
            · rw [bodies_snoc, Nat.zero_add, ← HBI.out.1]; exact HS9.out
            · rw [e1.out]; exact HM.out
          · have h5 : decide (b ≥ 0) = true := decide_eq_true h3
            have h6 : decide (b < (ar : Int)) = false := decide_eq_false h4
            go_wp2_with fail
            refine ⟨⟨a + 1, q, c, A, by rw [e1.out], HLA.out, ⟨?_⟩, rfl, ⟨HS8.out.drop⟩⟩, ?_⟩
            · have := HQ.out; have := HB.out; omega
            · rw [e1.out]; exact HM.out
        · have h5 : decide (b ≥ 0) = false := decide_eq_false h3
          go_wp2_with fail
          refine ⟨⟨a + 1, q, c, A, by rw [e1.out], HLA.out, ⟨?_⟩, rfl, ⟨HS8.out.drop⟩⟩, ?_⟩
          · have := HQ.out; have := HB.out; omega
          · rw [e1.out]; exact HM.out
    · have h1 : decide (b ≤ (ar : Int)) = false := decide_eq_false hlt
      obtain rfl : q = ar := by have := HQ.out; omega
      have HLQ := Aside0.mk (bodies_length now q 0)
      clear hlt hb ha HQ HAA
      go_wp2_with fail
      refine (counts_Load.st wr (k : Int) HS.out.row_C.2.2 (bodies_bytes _ _ _)).mono ?_
      intro e w6 hp
      rw [LoadPost, if_pos (by have := HK.out; omega), Int.toNat_natCast, if_pos (by rw [HLQ.out, HAE.out]), HFE.out, HLB.out] at hp
      obtain ⟨p, rfl, hs⟩ := hp
      have HS6 := Aside0.mk (show St w w6 [row (Kd.slice 5 (Kd.int .u8)) 52 (.slice A q c) (bodies now 0 q), cnt p k q fi now now] from by
        have h9 := HS.out.trans hs
        rw [HAE.out] at h9
        exact St.swap (St.drop (St.front 2 (St.drop (St.front 3 h9)))))
      clear hs HS h1
      go_wp2_with fail
      refine (ref_Load.st w6 (k : Int) HS6.out.row_C.2.2 (bodies_bytes _ _ _)).mono ?_
      intro e w7 hp
      rw [LoadPost, if_pos (by have := HK.out; omega), Int.toNat_natCast, if_pos (by rw [HLQ.out, HAE.out]), HFE.out, HLB.out] at hp
      obtain ⟨z, rfl, hs⟩ := hp
      have HS7 := Aside0.mk (show St w w7 [cnt p k q fi now now, rcnt z k fi now now] from St.swap (St.drop (St.front 1 (HS6.out.trans hs))))
      clear hs HS6
      go_wp2_with fail
      refine (law08_alike.st HS7.out).mono ?_
      rintro e w' ⟨rfl, rfl⟩
      have HRB7 := Aside0.mk (Kd.C_below HRB.out HS7.out.below)
      go_wp2_with fail
      refine (counts_Load.st w7 z0n HRB7.out HBB.out).mono ?_
      intro e w8 hp
      by_cases hn : 32 ≤ z0n ∧ z0n ≤ 2048
      · have HNN := Aside0.mk hn
        rw [LoadPost, if_pos hn] at hp
        obtain ⟨R, hR⟩ : ∃ R, (if z2l.length = areas z0n.toNat then loadR (firstOf z0n.toNat) z0n.toNat 0 z2l (List.replicate z0n.toNat 0) else none) = R := ⟨_, rfl⟩
        rw [hR] at hp
        have HRE := Aside0.mk hR
        clear hR hn
        cases R with
        | none =>
          obtain ⟨rfl, hs⟩ := hp
          have HS8 := Aside0.mk (HS7.out.trans hs)
          have HRB8 := Aside0.mk (Kd.C_below HRB.out HS8.out.below)
          clear hs HS7 HRB7
          go_wp2_with fail
          refine (ref_Load.st w8 z0n HRB8.out HBB.out).mono ?_
          intro e w9 hp
          rw [LoadPost, if_pos HNN.out, HRE.out] at hp
          obtain ⟨rfl, hs⟩ := hp
          have HS9 := Aside0.mk (HS8.out.trans hs)
          clear hs HS8 HRB8
          go_wp2
          go_ret
          exact ⟨rfl, HS9.out.below⟩
        | some nw =>
          obtain ⟨p2, rfl, hs⟩ := hp
          have HS8 := Aside0.mk (HS7.out.trans hs)
          have HRB8 := Aside0.mk (Kd.C_below HRB.out HS8.out.below)
          clear hs HS7 HRB7
          go_wp2_with fail
          refine (ref_Load.st w8 z0n HRB8.out HBB.out).mono ?_
          intro e w9 hp
          rw [LoadPost, if_pos HNN.out, HRE.out] at hp
          obtain ⟨z2, rfl, hs⟩ := hp
          have HS9 := Aside0.mk (St.swap (HS8.out.trans hs))
          clear hs HS8 HRB8
          go_wp2_with fail
          refine (law08_alike.st HS9.out).mono ?_
          rintro e w' ⟨rfl, rfl⟩
          go_wp2
          go_ret
          exact ⟨rfl, HS9.out.below⟩
      · have HNN := Aside0.mk hn
        rw [LoadPost, if_neg hn] at hp
        obtain ⟨rfl, hs⟩ := hp
        have HS8 := Aside0.mk (HS7.out.trans hs)
        have HRB8 := Aside0.mk (Kd.C_below HRB.out HS8.out.below)
        clear hs HS7 HRB7 hn
        go_wp2_with fail
        refine (ref_Load.st w8 z0n HRB8.out HBB.out).mono ?_
        intro e w9 hp
        rw [LoadPost, if_neg HNN.out] at hp
        obtain ⟨rfl, hs⟩ := hp
        have HS9 := Aside0.mk (HS8.out.trans hs)
        clear hs HS8 HRB8
        go_wp2
        go_ret
        exact ⟨rfl, HS9.out.below⟩
end Go.Proofs.Ytinhiigkfabcfaa.P
