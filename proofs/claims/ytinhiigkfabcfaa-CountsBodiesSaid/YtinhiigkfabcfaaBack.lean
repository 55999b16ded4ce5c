/- CountsBack's walk. -/
import Derived.Test.YtinhiigkfabcfaaCnt6
namespace Go.Proofs.Ytinhiigkfabcfaa.P
open Go.RowKit Go.Proofs.YtinhiigkfabcfaaW.PrintWords Go.Proofs.YtinhiigkfabcfaaW.PrintLast Go.Proofs.YtinhiigkfabcfaaW.PrintMore Go.Proofs.Ytinhiigkfabcfaa.Sep Go.Proofs.Ytinhiigkfabcfaa.NumLem
set_option linter.unusedVariables false
attribute [local go_sem] max2_int min2_int max_two min_two max_three min_three max_four min_four
theorem info52 : (Try.prog.info? 52).map (fun i => (i.zero, i.size, i.bytes)) = some (some (.slice none 0 0), 1, 24) := by kernel_rfl
/-- How many are named ahead of place a. -/
def usedR (now : List Int) : Nat → Nat
  | 0 => 0
  | a + 1 => usedR now a + if now.getD a 0 = 0 then 0 else 1
theorem usedR_le (now : List Int) : ∀ a, usedR now a ≤ a := by
  intro a
  induction a with
  | zero => exact Nat.le_refl _
  | succ a ih => unfold usedR; split <;> omega
theorem usedR_low {now : List Int} {fi : Nat} (h : Low fi now) : ∀ a, a ≤ fi → usedR now a = 0 := by
  intro a
  induction a with
  | zero => intro _; rfl
  | succ a ih => intro ha; unfold usedR; rw [ih (by omega), if_pos (h a (by omega))]
theorem nfree_used (now : List Int) : ∀ d x, nfree now now x d + usedR now (x + d) = d + usedR now x := by
  intro d
  induction d with
  | zero => intro x; show 0 + usedR now (x + 0) = 0 + usedR now x; rfl
  | succ d ih =>
    intro x
    have h := ih (x + 1)
    rw [show x + 1 + d = x + (d + 1) from by omega] at h
    have h2 : usedR now (x + 1) = usedR now x + if now.getD x 0 = 0 then 0 else 1 := rfl
    unfold nfree
    unfold freeB
    rw [Bool.and_self]
    by_cases h0 : now.getD x 0 = 0
    · rw [if_pos (by rw [h0]; rfl)]
      rw [if_pos h0] at h2
      omega
    · rw [if_neg (by rw [beq_iff_eq]; exact h0)]
      rw [if_neg h0] at h2
      omega
theorem fresh_self (now : List Int) (a : Int) : freshB now now a = false := by
  unfold freshB
  by_cases h : getR now a = 0
  · simp [h]
  · obtain ⟨i, rfl, hi⟩ := getR_pos h
    rw [getR_in hi] at h
    rw [Int.toNat_natCast, show (now.getD i 0 == 0) = false from by rw [beq_eq_false_iff_ne]; exact h]
    exact Bool.and_false _
theorem bodies_bytes (now : List Int) : ∀ m i, ∀ b ∈ bodies now i m, Bytes b := by
  intro m
  induction m with
  | zero => intro i b hb; cases hb
  | succ m ih =>
    intro i b hb
    unfold bodies at hb
    rcases List.mem_cons.1 hb with h | h
    · rw [h]; exact bodyK_bytes now i 118
    · exact ih (i + 1) b h
set_option maxHeartbeats 4000000 in
set_option maxRecDepth 100000 in
theorem CountsBack_law (z0n : Int) (z1A : Option Addr) (z1c : Nat) (z1l : (List OpC)) (w : World) (h0 : Aside0 ((Lit.int .i64 z0n).wf = true)) (h1 : Aside0 (z1l.length ≤ z1c ∧ Kd.C kOpC w z1A z1l.length z1l ∧ (z1l.length ≤ maxLen ∧ ∀ y0_ ∈ z1l, ((Lit.int .i64 y0_.kind).wf = true ∧ (Lit.int .i64 y0_.a).wf = true)))) :
    Calls Try.prog 8 #[.int .i64 z0n, .slice z1A z1l.length z1c] w fun e w' => e = .returned (.bool true) ∧ Below w.heap.size w w' := by
  have HR := Aside0.mk h1.out.2.1
  have HW := Aside0.mk (fun (o : OpC) (ho : o ∈ z1l) => i64_range (h1.out.2.2.2 o ho).1)
  have HA := Aside0.mk (i64_range h0.out)
  clear h0 h1
  obtain ⟨N, hN⟩ : ∃ N, z1l.length = N := ⟨_, rfl⟩
  rw [hN] at HR ⊢
  clear hN
  have hr := kindR_range z0n 300 (by decide)
  obtain ⟨r, hrr⟩ : ∃ r, kindR z0n 300 = r := ⟨_, rfl⟩
  rw [hrr] at hr
  obtain ⟨hr0, hr1⟩ := hr
  obtain ⟨k, hk⟩ : ∃ k : Nat, 32 + r = (k : Int) := ⟨(32 + r).toNat, by omega⟩
  have HK := Aside0.mk (show 32 ≤ k ∧ k ≤ 2048 ∧ k ≤ 400 from by omega)
  have HRR := Aside0.mk hrr
  have HKE := Aside0.mk hk
  clear hrr hk
  have HFI := Aside0.mk (show 4 ≤ firstOf k ∧ firstOf k < k ∧ areas k ≤ 18 from by have := HK.out; unfold firstOf areas; omega)
  go_enter Try.func8, Try.ntmps8
  go_wp2_with fail
  refine (law08_shown.st (St.start w)).mono ?_
  rintro e w1 ⟨rfl, hs⟩
  have HS1 := Aside0.mk hs
  clear hs
  go_wp2_with fail
  refine (law08_kind.st z0n 300 HA.out (by decide) (by decide) w1).mono ?_
  rintro e w' ⟨rfl, rfl⟩
  rw [HRR.out]
  go_wp2_with fail
  rw [HKE.out]
  clear hr0 hr1
  refine (counts_New.st HS1.out (k : Int)).mono ?_
  intro e w2 hp
  rw [NewPost, if_pos (by have := HK.out; omega), Int.toNat_natCast] at hp
  obtain ⟨g, rfl, hs⟩ := hp
  have HS2 := Aside0.mk hs
  clear hs HS1
  go_wp2_with fail
  refine (law08_play.st (s := (List.replicate k 0, List.replicate k 0)) HS2.out HR.out HW.out).mono ?_
  rintro e w3 ⟨rfl, hs⟩
  have HLO := Aside0.mk (Low.playR (fi := firstOf k) (n := k) (l := z1l) (s := (List.replicate k 0, List.replicate k 0)) (Low.zeros _ _) (by simp))
  generalize playR (firstOf k) k z1l (List.replicate k 0, List.replicate k 0) = s at *
  obtain ⟨now, done⟩ := s
  have HS3 := Aside0.mk (show St w w3 [cnt g k (areas k) (firstOf k) now done] from hs)
  have HCP := Aside0.mk (cnt_out HS3.out).1
  clear hs HS2
  go_wp2_with fail
  refine (ref_Areas.st k HK.out.2.1 w3).mono ?_
  rintro e w' ⟨rfl, rfl⟩
  have HE := Aside0.mk (show St w (w3.alloc (.cells #[] 52)) (row (Kd.slice 5 (Kd.int .u8)) 52 (.slice (some ⟨w3.heap.size, 0, none⟩) 0 0) ([] : List (List Int)) :: [cnt g k (areas k) (firstOf k) now done]) from HS3.out.row_none _)
  have HLB := Aside0.mk (load_back HCP.out.cn HCP.out.ln HLO.out)
  obtain ⟨fi, hfi⟩ : ∃ fi, firstOf k = fi := ⟨_, rfl⟩
  obtain ⟨ar, har⟩ : ∃ ar, areas k = ar := ⟨_, rfl⟩
  have HFE := Aside0.mk hfi
  have HAE := Aside0.mk har
  rw [hfi, har] at HE HLB HFI
  rw [hfi] at HCP HLO
  rw [hfi, har]
  clear hfi har HS3
  go_wp2_with fail
  go_loopw [11, 12] (fun v i wr => ∃ (a c : Nat) (A : Option Addr), i = .int .i64 a ∧ a ≤ ar ∧ v = .slice A a c ∧ Aside0 (St w wr [row (Kd.slice 5 (Kd.int .u8)) 52 (.slice A a c) (bodies now 0 a), cnt g k ar fi now done])) (fun _ i _ => ar - (intOf i).toNat)
  case atStart => exact ⟨0, 0, _, rfl, by omega, rfl, HE⟩
  case round =>
    clear HE
    obtain ⟨a, c, A, rfl, ha, rfl, HS⟩ := hrel
    by_cases hlt : a < ar
    · have h1 : decide ((a : Int) < (ar : Int)) = true := decide_eq_true (by omega)
      have h2 : (a : Int) < (ar : Int) := by omega
      have HLT := Aside0.mk hlt
      have e1 := Aside0.mk (inc_w a (by have := HFI.out; omega))
      have HBI := Aside0.mk (show bodyI ar now (a : Int) = bodyK now a 118 from by unfold bodyI; rw [if_pos (by omega), Int.toNat_natCast])
      have HLL := Aside0.mk (show ((bodies now 0 a).length + 1) * 24 ≤ 140737488355328 from by rw [bodies_length]; have := HFI.out; omega)
      clear hlt ha
      go_wp2_with fail
      refine (counts_Body.st HS.out.swap (by have := HFI.out; omega) (a : Int)).mono ?_
      rintro e w5 ⟨v5, rfl, hs⟩
      rw [HBI.out] at hs
      obtain ⟨A5, c5, he5⟩ := hs.row_slice
      rw [bodyK_length] at he5
      subst he5
      have HS5 := Aside0.mk (St.front 2 hs)
      clear hs HS h1 h2
      go_wp2_with (first | ((with_reducible refine gate_builtin (b := .append) (xs := #[.tmp 48, .tmp 52]) rfl ?_); at_builtin; refine St.append_one (d := Kd.int .u8) rfl (.tmp 48) (.tmp 52) 50 52 (.slice none 0 0) 24 rfl Try.underlying50 info52 rfl (by decide) _ _ (bodies now 0 a) (bodyK now a 118) rfl rfl HS5.out HLL.out ?_; intro v6 w6 hs6; obtain ⟨A6, c6, he6⟩ := hs6.row_slice; rw [List.length_append, bodies_length] at he6; subst he6; have HS6 := Aside0.mk hs6; clear hs6))
      exact ⟨⟨a + 1, c6, A6, by rw [e1.out], HLT.out, rfl, ⟨by rw [bodies_snoc, Nat.zero_add]; exact HS6.out⟩⟩, meas_w a ar HLT.out _ e1.out⟩
    · have h1 : decide ((a : Int) < (ar : Int)) = false := decide_eq_false (by omega)
      have h2 : ¬ (a : Int) < (ar : Int) := by omega
      obtain rfl : a = ar := by omega
      clear ha hlt
      go_wp2_with fail
      refine (counts_Load.st wr (k : Int) HS.out.row_C.2.2 (bodies_bytes _ _ _)).mono ?_
      intro e w5 hp
      rw [LoadPost, if_pos (by have := HK.out; omega), Int.toNat_natCast, if_pos (by rw [bodies_length, HAE.out]), HFE.out, HLB.out] at hp
      obtain ⟨y, rfl, hs⟩ := hp
      have HS5 := Aside0.mk (show St w w5 [cnt y k a fi now now, cnt g k a fi now done] from by
        have h9 := HS.out.trans hs
        rw [HAE.out] at h9
        exact St.drop (St.front 1 h9))
      clear hs HS h1 h2
      go_wp2_with fail
      go_loop [15, 16] (fun u i => ∃ b : Nat, i = .int .i64 b ∧ b ≤ k ∧ u = .int .i64 (usedR now b : Nat)) (fun _ i => k - (intOf i).toNat)
      case atStart => exact ⟨0, rfl, Nat.zero_le _, rfl⟩
      case round =>
        obtain ⟨b, rfl, hb, rfl⟩ := hrel
        by_cases hlt : b < k
        · have h1 : decide ((b : Int) < (k : Int)) = true := decide_eq_true (by omega)
          have h2 : (b : Int) < (k : Int) := by omega
          have HLT := Aside0.mk hlt
          have e1 := Aside0.mk (inc_w b (by have := HK.out; omega))
          have hub := usedR_le now b
          have e2 := Aside0.mk (inc_w (usedR now b) (by have := HK.out; omega))
          have hg := getR_in (l := now) (a := b) (by rw [HCP.out.ln]; exact hlt)
          have hus : usedR now (b + 1) = usedR now b + if now.getD b 0 = 0 then 0 else 1 := rfl
          obtain ⟨x, hx⟩ : ∃ x, now.getD b 0 = x := ⟨_, rfl⟩
          have hx0 := HCP.out.cn.at b
          rw [hx] at hx0 hg hus
          have HG := Aside0.mk hg
          have HUS := Aside0.mk hus
          obtain ⟨u, hu⟩ : ∃ u, usedR now b = u := ⟨_, rfl⟩
          rw [hu] at e2 HUS ⊢
          clear hlt hb hub hg hus hx hu
          go_wp2_with fail
          refine (counts_Get.st HS5.out (b : Int)).mono ?_
          rintro e w' ⟨rfl, rfl⟩
          rw [HG.out]
          go_wp2_with fail
          refine (counts_Get.st HS5.out.swap (b : Int)).mono ?_
          rintro e w' ⟨rfl, rfl⟩
          rw [HG.out]
          go_wp2_with fail
          have K := counts_Fresh.st HS5.out (b : Int)
          rw [fresh_self] at K
          refine K.mono ?_
          clear K
          rintro e w' ⟨rfl, rfl⟩
          go_wp2_with fail
          refine (counts_Get.st HS5.out (b : Int)).mono ?_
          rintro e w' ⟨rfl, rfl⟩
          rw [HG.out]
          clear h1 h2
          by_cases h0 : x = 0
          · subst h0
            clear hx0
            go_wp2_with fail
            exact ⟨⟨b + 1, by rw [e1.out], HLT.out, by rw [HUS.out]; rfl⟩, meas_w b k HLT.out _ e1.out⟩
          · have h7 : decide (x > 0) = true := decide_eq_true (by omega)
            have h8 : (0 : Int) < x := by omega
            have H0 := Aside0.mk h0
            clear hx0 h0
            go_wp2_with fail
            exact ⟨⟨b + 1, by rw [e1.out], HLT.out, by rw [HUS.out, if_neg H0.out, e2.out]⟩, meas_w b k HLT.out _ e1.out⟩
        · have h1 : decide ((b : Int) < (k : Int)) = false := decide_eq_false (by omega)
          have h2 : ¬ (b : Int) < (k : Int) := by omega
          obtain rfl : b = k := by omega
          have hnu := nfree_used now (b - fi) fi
          rw [show fi + (b - fi) = b from by have := HFI.out; omega, usedR_low HLO.out fi (Nat.le_refl _)] at hnu
          have hub := usedR_le now b
          have HNU := Aside0.mk (show ((nfree now now fi (b - fi) : Nat) : Int) = (b : Int) - (fi : Int) - ((usedR now b : Nat) : Int) from by have := HFI.out; omega)
          have hb1 : (b : Int) ≤ 400 := by have := HK.out; omega
          have hb2 : (fi : Int) < (b : Int) := by have := HFI.out; omega
          have hb3 : ((usedR now b : Nat) : Int) ≤ (b : Int) := by omega
          clear hnu hub hlt hb
          go_wp2_with fail
          refine (ref_Areas.st b HK.out.2.1 w5).mono ?_
          rintro e w' ⟨rfl, rfl⟩
          rw [HFE.out, HAE.out]
          go_wp2_with fail
          have K := counts_Free.st HS5.out
          rw [HNU.out] at K
          refine K.mono ?_
          clear K
          rintro e w' ⟨rfl, rfl⟩
          go_wp2
          go_ret
          exact ⟨by simp, HS5.out.below⟩
end Go.Proofs.Ytinhiigkfabcfaa.P
