/- What all the laws of counts stand on: the examples, the kinds, the plays. -/
import Derived.Test.YtinhiigkfabcfaaCnt3
namespace Go.Proofs.Ytinhiigkfabcfaa.P
open Go.RowKit Go.Proofs.YtinhiigkfabcfaaW.PrintWords Go.Proofs.YtinhiigkfabcfaaW.PrintLast Go.Proofs.YtinhiigkfabcfaaW.PrintMore Go.Proofs.Ytinhiigkfabcfaa.Sep
set_option linter.unusedVariables false
attribute [local go_sem] max2_int min2_int max_two min_two max_three min_three max_four min_four
theorem i64_range {c : Int} (h : (Lit.int .i64 c).wf = true) : -9223372036854775808 ≤ c ∧ c ≤ 9223372036854775807 := by
  have e1 : IntKind.i64.min = -9223372036854775808 := rfl
  have e2 : IntKind.i64.max = 9223372036854775807 := rfl
  simp [Lit.wf] at h
  omega
theorem law08_kind.st (c n : Int) (hc : -9223372036854775808 ≤ c ∧ c ≤ 9223372036854775807) (hn : 0 < n) (hn2 : n ≤ 100000) (w : World) :
    Calls Try.prog 10 #[.int .i64 c, .int .i64 n] w fun e w' => e = .returned (.int .i64 (kindR c n)) ∧ w = w' := by
  obtain ⟨h1, h2⟩ := hc
  unfold kindR
  by_cases h : c < 0
  · have h3 : decide (c < 0) = true := decide_eq_true h
    rw [if_pos h]
    go_enter Try.func10, Try.ntmps10
    go_wp2
    go_ret
    refine ⟨?_, rfl⟩
    show Ending.returned (.int .i64 (-(Int.tmod (c + 1) n))) = _
    rw [← Int.neg_tmod, Int.tmod_eq_emod_of_nonneg (by omega)]
  · have h3 : decide (c < 0) = false := decide_eq_false h
    rw [if_neg h]
    go_enter Try.func10, Try.ntmps10
    go_wp2
    go_ret
    exact ⟨rfl, rfl⟩
section
variable {w0 w : World} {ps : List HP}
def z32 : List Int := List.replicate 32 0
def s1 : List Int := z32.set 4 1
def s2 : List Int := s1.set 5 1
def s3 : List Int := s2.set 4 2
def s4 : List Int := s3.set 5 0
def s5 : List Int := s4.set 4 1
def s6 : List Int := s5.set 4 0
def s7 : List Int := s6.set 5 1
set_option maxHeartbeats 1000000 in
theorem law08_shown.st (h : St w0 w ps) :
    Calls Try.prog 9 #[] w fun e w' => e = .returned (.bool true) ∧ St w0 w' ps := by
  have HS := Aside0.mk h
  clear h
  go_enter Try.func9, Try.ntmps9
  go_wp2_with fail
  refine (counts_New.st HS.out 32).mono ?_
  intro e w1 hp
  rw [NewPost, if_pos (by decide)] at hp
  obtain ⟨g, rfl, hs⟩ := hp
  have H1 := Aside0.mk (show St w0 w1 (cnt g 32 (areas 32) 4 z32 z32 :: ps) from hs)
  clear hs HS
  go_wp2_with fail
  refine (counts_Alloc.st H1.out (some 4) (by decide +kernel)).mono ?_
  rintro e w2 ⟨rfl, hs⟩
  have H2 := Aside0.mk (show St w0 w2 (cnt g 32 (areas 32) 4 s1 z32 :: ps) from hs)
  clear hs H1
  go_wp2_with fail
  refine (counts_Alloc.st H2.out (some 5) (by decide +kernel)).mono ?_
  rintro e w3 ⟨rfl, hs⟩
  have H3 := Aside0.mk (show St w0 w3 (cnt g 32 (areas 32) 4 s2 z32 :: ps) from hs)
  clear hs H2
  go_wp2_with fail
  refine (counts_Ref.st H3.out 4 1 (by decide +kernel)).mono ?_
  intro e w4 hp
  rw [RefPost, if_neg (by decide), if_neg (by decide)] at hp
  obtain ⟨rfl, hs⟩ := hp
  have H4 := Aside0.mk (show St w0 w4 (cnt g 32 (areas 32) 4 s3 z32 :: ps) from hs)
  clear hs H3
  go_wp2_with fail
  refine (counts_Unref.st H4.out 5 1 (by decide +kernel)).mono ?_
  intro e w5 hp
  rw [UnrefPost, if_neg (by decide)] at hp
  obtain ⟨rfl, hs⟩ := hp
  have H5 := Aside0.mk (show St w0 w5 (cnt g 32 (areas 32) 4 s4 z32 :: ps) from hs)
  clear hs H4
  go_wp2_with fail
  have K := counts_Free.st H5.out
  rw [show nfree s4 z32 4 (32 - 4) = 27 from by decide +kernel] at K
  refine K.mono ?_
  clear K
  rintro e w' ⟨rfl, rfl⟩
  go_wp2_with fail
  refine (counts_Commit.st H5.out).mono ?_
  rintro e w6 ⟨rfl, hs⟩
  have H6 := Aside0.mk hs
  clear hs H5
  go_wp2_with fail
  refine (counts_Unref.st H6.out 4 2 (by decide +kernel)).mono ?_
  intro e w7 hp
  rw [UnrefPost, if_neg (by decide)] at hp
  obtain ⟨rfl, hs⟩ := hp
  have H7 := Aside0.mk (show St w0 w7 (cnt g 32 (areas 32) 4 s5 s4 :: ps) from hs)
  clear hs H6
  go_wp2_with fail
  refine (counts_Unref.st H7.out 4 1 (by decide +kernel)).mono ?_
  intro e w8 hp
  rw [UnrefPost, if_neg (by decide)] at hp
  obtain ⟨rfl, hs⟩ := hp
  have H8 := Aside0.mk (show St w0 w8 (cnt g 32 (areas 32) 4 s6 s4 :: ps) from hs)
  clear hs H7
  go_wp2_with fail
  refine (counts_Alloc.st H8.out (some 5) (by decide +kernel)).mono ?_
  rintro e w9 ⟨rfl, hs⟩
  have H9 := Aside0.mk (show St w0 w9 (cnt g 32 (areas 32) 4 s7 s4 :: ps) from hs)
  clear hs H8
  go_wp2_with fail
  refine (counts_Commit.st H9.out).mono ?_
  rintro e w10 ⟨rfl, hs⟩
  have H10 := Aside0.mk hs
  clear hs H9
  go_wp2_with fail
  refine (counts_Alloc.st H10.out (some 4) (by decide +kernel)).mono ?_
  rintro e w11 ⟨rfl, hs⟩
  have H11 := Aside0.mk hs.drop
  clear hs H10
  go_wp2
  go_ret
  exact ⟨rfl, H11.out⟩
set_option maxHeartbeats 1000000 in
theorem law08_alike.st {g y n ar fi : Nat} {now done : List Int} (h : St w0 w (cnt g n ar fi now done :: rcnt y n fi now done :: ps)) :
    Calls Try.prog 27 #[.pointer (some ⟨g, 0, none⟩), .pointer (some ⟨y, 0, none⟩)] w fun e w' => e = .returned (.bool true) ∧ w = w' := by
  have HH := Aside0.mk h
  obtain ⟨hp, A1, c1, A2, c2, hs⟩ := rcnt_out h.swap
  obtain ⟨k0, _⟩ := rcnt_cells hs
  have HP := Aside0.mk hp
  clear h hs hp
  go_enter Try.func27, Try.ntmps27
  go_wp2_with fail
  refine (counts_Free.st HH.out).mono ?_
  rintro e w' ⟨rfl, rfl⟩
  go_wp2_with fail
  refine (ref_Free.st HH.out.swap).mono ?_
  rintro e w' ⟨rfl, rfl⟩
  go_wp2_with fail
  go_loop [5] (fun i => ∃ a : Nat, i = .int .i64 ((a : Int) - 1) ∧ a ≤ n + 2) (fun i => n + 2 - (intOf i + 1).toNat)
  case atStart => exact ⟨0, rfl, by omega⟩
  case round =>
    obtain ⟨a, rfl, ha⟩ := hrel
    obtain ⟨b, hb⟩ : ∃ b, b = (a : Int) - 1 := ⟨_, rfl⟩
    rw [← hb]
    have HB := Aside0.mk hb
    have HA := Aside0.mk ha
    by_cases hlt : b ≤ n
    · have h1 : decide (b ≤ (n : Int)) = true := decide_eq_true hlt
      have e1 := Aside0.mk (show wrap64 (b + 1) = ((a + 1 : Nat) : Int) - 1 from by have := HP.out.le; unfold wrap64; omega)
      have HL := Aside0.mk (show a + 1 ≤ n + 2 from by omega)
      have HE := Aside0.mk (show n + 2 - (((a + 1 : Nat) : Int) - 1 + 1).toNat < n + 2 - (b + 1).toNat from by omega)
      clear hb ha
      go_wp2_with fail
      refine (counts_Get.st HH.out b).mono ?_
      rintro e w' ⟨rfl, rfl⟩
      go_wp2_with fail
      refine (ref_Get.st HH.out.swap b).mono ?_
      rintro e w' ⟨rfl, rfl⟩
      go_wp2_with fail
      refine (counts_Fresh.st HH.out b).mono ?_
      rintro e w' ⟨rfl, rfl⟩
      go_wp2_with fail
      refine (ref_Fresh.st HH.out.swap b).mono ?_
      rintro e w' ⟨rfl, rfl⟩
      clear h1 hlt
      go_wp2_with fail
      exact ⟨⟨a + 1, by rw [e1.out], HL.out⟩, by rw [e1.out]; exact HE.out⟩
    · have h1 : decide (b ≤ (n : Int)) = false := decide_eq_false hlt
      clear hb ha
      go_wp2
      go_ret
      exact ⟨rfl, rfl⟩
def kOpC : Kd OpC := Kd.iso (Kd.pair (Kd.int .i64) (Kd.int .i64)) (fun o => (o.kind, o.a))
theorem ops_at {A : Option Addr} {N : Nat} {l : List OpC} (hb : Below w0.heap.size w0 w) (hr : Kd.C kOpC w0 A N l) (j : Nat) (hj : j < N) :
    ∃ ad, A = some ad ∧ w.cell? (ad.add (j * 2)) = some (.int .i64 (l.getD j ⟨0, 0⟩).kind) ∧ w.cell? ⟨(ad.add (j * 2)).block, (ad.add (j * 2)).off + 1, none⟩ = some (.int .i64 (l.getD j ⟨0, 0⟩).a) := by
  obtain ⟨ad, c, hA, hcl, hK, hcs⟩ := Kd.C_get hr ⟨0, 0⟩ (j : Int) (by omega) (by omega)
  rw [Int.toNat_natCast] at hK hcs
  obtain ⟨_, _, rfl, rfl, rfl⟩ := hK
  have hcw : ∀ k u, [Value.int .i64 (l.getD j ⟨0, 0⟩).kind, .int .i64 (l.getD j ⟨0, 0⟩).a][k]? = some u → w.cell? (ad.add (j * 2 + k)) = some u := fun k u h => (hb.cell (World.block_lt_of_cell? w0 _ (hcs k u h))).trans (hcs k u h)
  exact ⟨ad, hA, hcw 0 _ rfl, by rw [← add_field ad (j * 2) 1 (by decide)]; exact hcw 1 _ rfl⟩
theorem AllocPost.to {C : List Int → List Int → HP} {now done : List Int} {fi n : Nat} {e : Ending} {w' : World} (h : AllocPost w0 ps C now done (scan now done fi (n - fi)) e w') : ∃ v, e = .returned v ∧ St w0 w' (C (allocS fi n (now, done)).1 (allocS fi n (now, done)).2 :: ps) := by
  unfold AllocPost at h
  unfold allocS
  cases hs : scan now done fi (n - fi) with
  | none => rw [hs] at h; exact ⟨_, h.1, h.2⟩
  | some a => rw [hs] at h; exact ⟨_, h.1, h.2⟩
theorem RefPost.to {C : List Int → List Int → HP} {now done : List Int} {a : Int} {e : Ending} {w' : World} (h : RefPost w0 ps C now done a (getR now a) e w') : ∃ v, e = .returned v ∧ St w0 w' (C (refS a (now, done)).1 (refS a (now, done)).2 :: ps) := by
  unfold RefPost at h
  unfold refS
  dsimp only
  split at h
  · rename_i h1; rw [if_pos h1]; exact ⟨_, h.1, h.2⟩
  · rename_i h1
    rw [if_neg h1]
    split at h
    · rename_i h2; rw [if_pos h2]; exact ⟨_, h.1, h.2⟩
    · rename_i h2; rw [if_neg h2]; exact ⟨_, h.1, h.2⟩
theorem UnrefPost.to {C : List Int → List Int → HP} {now done : List Int} {a : Int} {e : Ending} {w' : World} (h : UnrefPost w0 ps C now done a (getR now a) e w') : ∃ v, e = .returned v ∧ St w0 w' (C (unrefS a (now, done)).1 (unrefS a (now, done)).2 :: ps) := by
  unfold UnrefPost at h
  unfold unrefS
  dsimp only
  split at h
  · rename_i h1; rw [if_pos h1]; exact ⟨_, h.1, h.2⟩
  · rename_i h1; rw [if_neg h1]; exact ⟨_, h.1, h.2⟩
theorem o_both (j N : Nat) : (j < N ∧ j < 60 ∧ decide ((j : Int) < (N : Int)) = true ∧ decide ((j : Int) < 60) = true ∧ (j : Int) < (N : Int) ∧ (j : Int) < 60) ∨ (¬ j < N ∧ decide ((j : Int) < (N : Int)) = false ∧ ¬ (j : Int) < (N : Int)) ∨ (j < N ∧ ¬ j < 60 ∧ decide ((j : Int) < (N : Int)) = true ∧ decide ((j : Int) < 60) = false ∧ (j : Int) < (N : Int) ∧ ¬ (j : Int) < 60) := by
  by_cases h : j < N
  · by_cases h2 : j < 60
    · exact Or.inl ⟨h, h2, decide_eq_true (by omega), decide_eq_true (by omega), by omega, by omega⟩
    · exact Or.inr (Or.inr ⟨h, h2, decide_eq_true (by omega), decide_eq_false (by omega), by omega, by omega⟩)
  · exact Or.inr (Or.inl ⟨h, decide_eq_false (by omega), by omega⟩)
set_option maxHeartbeats 2000000 in
theorem law08_play.st {g n ar fi : Nat} {s : CS} (h : St w0 w (cnt g n ar fi s.1 s.2 :: ps)) {A : Option Addr} {N c : Nat} {l : List OpC} (hr : Kd.C kOpC w0 A N l) (hw : ∀ o ∈ l, -9223372036854775808 ≤ o.kind ∧ o.kind ≤ 9223372036854775807) :
    Calls Try.prog 20 #[.pointer (some ⟨g, 0, none⟩), .slice A N c] w fun e w' => e = .returned (.tuple #[]) ∧ St w0 w' (cnt g n ar fi (playR fi n l s).1 (playR fi n l s).2 :: ps) := by
  have HH := Aside0.mk h
  have HR := Aside0.mk hr
  have HW := Aside0.mk hw
  have HL := Aside0.mk hr.1
  clear h hr hw
  go_enter Try.func20, Try.ntmps20
  go_wp2_with fail
  go_loopw [4, 21, 27, 36, 45] (fun i _ _ _ _ wr => ∃ j : Nat, i = .int .i64 j ∧ j ≤ 60 ∧ j ≤ N ∧ Aside0 (St w0 wr (cnt g n ar fi (playK fi n l s j).1 (playK fi n l s j).2 :: ps))) (fun i _ _ _ _ _ => 60 - (intOf i).toNat)
  case atStart => exact ⟨0, rfl, by omega, by omega, HH⟩
  case round =>
    clear HH
    obtain ⟨j, rfl, hj, hjn, HS⟩ := hrel
    have HJ := Aside0.mk hj
    have HJN := Aside0.mk hjn
    clear hj hjn
    rcases o_both j N with ⟨h1, h2, h3, h4, h5, h6⟩ | ⟨h1, h2, h3⟩ | ⟨h1, h2, h3, h4, h5, h6⟩
    · obtain ⟨ad, rfl, k0, k1⟩ := ops_at HS.out.below HR.out j h1
      have hmem : l.getD j ⟨0, 0⟩ ∈ l := by
        rw [List.getD_eq_getElem?_getD, List.getElem?_eq_getElem (by rw [HL.out]; exact h1)]
        exact List.getElem_mem _
      have HKR := Aside0.mk (HW.out _ hmem)
      have HST := Aside0.mk (playK_succ fi n l s j (by rw [HL.out]; exact h1) ⟨0, 0⟩)
      obtain ⟨o, ho⟩ : ∃ o, l.getD j ⟨0, 0⟩ = o := ⟨_, rfl⟩
      rw [ho] at k0 k1 HKR HST
      obtain ⟨t, ht⟩ : ∃ t, playK fi n l s j = t := ⟨_, rfl⟩
      rw [ht] at HST HS
      obtain ⟨now, done⟩ := t
      have HNJ := Aside0.mk h1
      have HJ6 := Aside0.mk h2
      have e1 := Aside0.mk (inc_w j (by omega))
      have hk6 := kind6 o.kind
      obtain ⟨kk, hkk⟩ : ∃ kk, kindR o.kind 6 = kk := ⟨_, rfl⟩
      rw [hkk] at hk6
      have HKK := Aside0.mk hkk
      have K1 := Aside0.mk k1
      clear hmem ho ht hkk h1 h2 k1
      go_wp2_with fail
      refine (law08_kind.st o.kind 6 HKR.out (by decide) (by decide) wr).mono ?_
      rintro e w' ⟨rfl, rfl⟩
      rw [HKK.out]
      clear k0 h3 h4 h5 h6
      rcases hk6 with rfl | rfl | rfl | rfl | rfl | rfl
      iterate 3
        · go_wp2_with fail
          refine (counts_Alloc.st HS.out _ rfl).mono ?_
          intro e w1 hp
          obtain ⟨v, rfl, hs⟩ := hp.to
          rw [show allocS fi n (now, done) = playK fi n l s (j + 1) from by rw [HST.out]; unfold playStep; rw [HKK.out]; rfl] at hs
          have HS1 := Aside0.mk hs
          clear hs hp
          go_wp2_with fail
          exact ⟨⟨j + 1, by rw [e1.out], HJ6.out, HNJ.out, HS1⟩, meas_w j 60 HJ6.out _ e1.out⟩
      · have k1 := K1.out
        have h7 : (j : Int) < (N : Int) := by have := HNJ.out; omega
        go_wp2_with fail
        refine (counts_Ref.st HS.out o.a _ rfl).mono ?_
        intro e w1 hp
        obtain ⟨v, rfl, hs⟩ := hp.to
        rw [show refS o.a (now, done) = playK fi n l s (j + 1) from by rw [HST.out]; unfold playStep; rw [HKK.out]; rfl] at hs
        have HS1 := Aside0.mk hs
        clear hs hp k1 h7
        go_wp2_with fail
        exact ⟨⟨j + 1, by rw [e1.out], HJ6.out, HNJ.out, HS1⟩, meas_w j 60 HJ6.out _ e1.out⟩
      · have k1 := K1.out
        have h7 : (j : Int) < (N : Int) := by have := HNJ.out; omega
        go_wp2_with fail
        refine (counts_Unref.st HS.out o.a _ rfl).mono ?_
        intro e w1 hp
        obtain ⟨v, rfl, hs⟩ := hp.to
        rw [show unrefS o.a (now, done) = playK fi n l s (j + 1) from by rw [HST.out]; unfold playStep; rw [HKK.out]; rfl] at hs
        have HS1 := Aside0.mk hs
        clear hs hp k1 h7
        go_wp2_with fail
        exact ⟨⟨j + 1, by rw [e1.out], HJ6.out, HNJ.out, HS1⟩, meas_w j 60 HJ6.out _ e1.out⟩
      · go_wp2_with fail
        refine (counts_Commit.st HS.out).mono ?_
        rintro e w1 ⟨rfl, hs⟩
        have HS1 := Aside0.mk (show St w0 w1 (cnt g n ar fi (playK fi n l s (j + 1)).1 (playK fi n l s (j + 1)).2 :: ps) from by rw [HST.out]; unfold playStep; rw [HKK.out]; exact hs)
        clear hs
        go_wp2_with fail
        exact ⟨⟨j + 1, by rw [e1.out], HJ6.out, HNJ.out, HS1⟩, meas_w j 60 HJ6.out _ e1.out⟩
    · have HE := Aside0.mk (show j = min l.length 60 from by have := HL.out; have := HJ.out; have := HJN.out; omega)
      clear h1
      go_wp2
      go_end0
      exact ⟨rfl, by unfold playR; rw [← HE.out]; exact HS.out⟩
    · have HE := Aside0.mk (show j = min l.length 60 from by have := HL.out; have := HJ.out; have := HJN.out; omega)
      clear h1 h2
      go_wp2
      go_end0
      exact ⟨rfl, by unfold playR; rw [← HE.out]; exact HS.out⟩
set_option maxHeartbeats 2000000 in
theorem law08_playRef.st {g n fi : Nat} {s : CS} (h : St w0 w (rcnt g n fi s.1 s.2 :: ps)) {A : Option Addr} {N c : Nat} {l : List OpC} (hr : Kd.C kOpC w0 A N l) (hw : ∀ o ∈ l, -9223372036854775808 ≤ o.kind ∧ o.kind ≤ 9223372036854775807) :
    Calls Try.prog 28 #[.pointer (some ⟨g, 0, none⟩), .slice A N c] w fun e w' => e = .returned (.tuple #[]) ∧ St w0 w' (rcnt g n fi (playR fi n l s).1 (playR fi n l s).2 :: ps) := by
  have HH := Aside0.mk h
  have HR := Aside0.mk hr
  have HW := Aside0.mk hw
  have HL := Aside0.mk hr.1
  clear h hr hw
  go_enter Try.func28, Try.ntmps28
  go_wp2_with fail
  go_loopw [4, 21, 27, 36, 45] (fun i _ _ _ _ wr => ∃ j : Nat, i = .int .i64 j ∧ j ≤ 60 ∧ j ≤ N ∧ Aside0 (St w0 wr (rcnt g n fi (playK fi n l s j).1 (playK fi n l s j).2 :: ps))) (fun i _ _ _ _ _ => 60 - (intOf i).toNat)
  case atStart => exact ⟨0, rfl, by omega, by omega, HH⟩
  case round =>
    clear HH
    obtain ⟨j, rfl, hj, hjn, HS⟩ := hrel
    have HJ := Aside0.mk hj
    have HJN := Aside0.mk hjn
    clear hj hjn
    rcases o_both j N with ⟨h1, h2, h3, h4, h5, h6⟩ | ⟨h1, h2, h3⟩ | ⟨h1, h2, h3, h4, h5, h6⟩
    · obtain ⟨ad, rfl, k0, k1⟩ := ops_at HS.out.below HR.out j h1
      have hmem : l.getD j ⟨0, 0⟩ ∈ l := by
        rw [List.getD_eq_getElem?_getD, List.getElem?_eq_getElem (by rw [HL.out]; exact h1)]
        exact List.getElem_mem _
      have HKR := Aside0.mk (HW.out _ hmem)
      have HST := Aside0.mk (playK_succ fi n l s j (by rw [HL.out]; exact h1) ⟨0, 0⟩)
      obtain ⟨o, ho⟩ : ∃ o, l.getD j ⟨0, 0⟩ = o := ⟨_, rfl⟩
      rw [ho] at k0 k1 HKR HST
      obtain ⟨t, ht⟩ : ∃ t, playK fi n l s j = t := ⟨_, rfl⟩
      rw [ht] at HST HS
      obtain ⟨now, done⟩ := t
      have HNJ := Aside0.mk h1
      have HJ6 := Aside0.mk h2
      have e1 := Aside0.mk (inc_w j (by omega))
      have hk6 := kind6 o.kind
      obtain ⟨kk, hkk⟩ : ∃ kk, kindR o.kind 6 = kk := ⟨_, rfl⟩
      rw [hkk] at hk6
      have HKK := Aside0.mk hkk
      have K1 := Aside0.mk k1
      clear hmem ho ht hkk h1 h2 k1
      go_wp2_with fail
      refine (law08_kind.st o.kind 6 HKR.out (by decide) (by decide) wr).mono ?_
      rintro e w' ⟨rfl, rfl⟩
      rw [HKK.out]
      clear k0 h3 h4 h5 h6
      rcases hk6 with rfl | rfl | rfl | rfl | rfl | rfl
      iterate 3
        · go_wp2_with fail
          refine (ref_Alloc.st HS.out _ rfl).mono ?_
          intro e w1 hp
          obtain ⟨v, rfl, hs⟩ := hp.to
          rw [show allocS fi n (now, done) = playK fi n l s (j + 1) from by rw [HST.out]; unfold playStep; rw [HKK.out]; rfl] at hs
          have HS1 := Aside0.mk hs
          clear hs hp
          go_wp2_with fail
          exact ⟨⟨j + 1, by rw [e1.out], HJ6.out, HNJ.out, HS1⟩, meas_w j 60 HJ6.out _ e1.out⟩
      · have k1 := K1.out
        have h7 : (j : Int) < (N : Int) := by have := HNJ.out; omega
        go_wp2_with fail
        refine (ref_Ref.st HS.out o.a _ rfl).mono ?_
        intro e w1 hp
        obtain ⟨v, rfl, hs⟩ := hp.to
        rw [show refS o.a (now, done) = playK fi n l s (j + 1) from by rw [HST.out]; unfold playStep; rw [HKK.out]; rfl] at hs
        have HS1 := Aside0.mk hs
        clear hs hp k1 h7
        go_wp2_with fail
        exact ⟨⟨j + 1, by rw [e1.out], HJ6.out, HNJ.out, HS1⟩, meas_w j 60 HJ6.out _ e1.out⟩
      · have k1 := K1.out
        have h7 : (j : Int) < (N : Int) := by have := HNJ.out; omega
        go_wp2_with fail
        refine (ref_Unref.st HS.out o.a _ rfl).mono ?_
        intro e w1 hp
        obtain ⟨v, rfl, hs⟩ := hp.to
        rw [show unrefS o.a (now, done) = playK fi n l s (j + 1) from by rw [HST.out]; unfold playStep; rw [HKK.out]; rfl] at hs
        have HS1 := Aside0.mk hs
        clear hs hp k1 h7
        go_wp2_with fail
        exact ⟨⟨j + 1, by rw [e1.out], HJ6.out, HNJ.out, HS1⟩, meas_w j 60 HJ6.out _ e1.out⟩
      · go_wp2_with fail
        refine (ref_Commit.st HS.out).mono ?_
        rintro e w1 ⟨rfl, hs⟩
        have HS1 := Aside0.mk (show St w0 w1 (rcnt g n fi (playK fi n l s (j + 1)).1 (playK fi n l s (j + 1)).2 :: ps) from by rw [HST.out]; unfold playStep; rw [HKK.out]; exact hs)
        clear hs
        go_wp2_with fail
        exact ⟨⟨j + 1, by rw [e1.out], HJ6.out, HNJ.out, HS1⟩, meas_w j 60 HJ6.out _ e1.out⟩
    · have HE := Aside0.mk (show j = min l.length 60 from by have := HL.out; have := HJ.out; have := HJN.out; omega)
      clear h1
      go_wp2
      go_end0
      exact ⟨rfl, by unfold playR; rw [← HE.out]; exact HS.out⟩
    · have HE := Aside0.mk (show j = min l.length 60 from by have := HL.out; have := HJ.out; have := HJN.out; omega)
      clear h1 h2
      go_wp2
      go_end0
      exact ⟨rfl, by unfold playR; rw [← HE.out]; exact HS.out⟩
end
end Go.Proofs.Ytinhiigkfabcfaa.P
