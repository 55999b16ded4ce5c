/- CountsAll's walk. -/
import Derived.Test.YtinhiigkfabcfaaCnt4
namespace Go.Proofs.Ytinhiigkfabcfaa.P
open Go.RowKit Go.Proofs.YtinhiigkfabcfaaW.PrintWords Go.Proofs.YtinhiigkfabcfaaW.PrintLast Go.Proofs.YtinhiigkfabcfaaW.PrintMore Go.Proofs.Ytinhiigkfabcfaa.Sep
set_option linter.unusedVariables false
attribute [local go_sem] max2_int min2_int max_two min_two max_three min_three max_four min_four
theorem scan_some {now done : List Int} {a : Nat} (hf : freeB now done a = true) : ∀ (d x : Nat), (∀ b, x ≤ b → b < a → freeB now done b = false) → x ≤ a → a < x + d → scan now done x d = some a := by
  intro d
  induction d with
  | zero => intro x _ _ h; omega
  | succ d ih =>
    intro x h h1 h2
    unfold scan
    by_cases hx : x = a
    · subst hx; rw [if_pos hf]
    · rw [if_neg (by rw [h x (Nat.le_refl _) (by omega)]; decide)]
      exact ih (x + 1) (fun b hb hb2 => h b (by omega) hb2) (by omega) (by omega)
theorem scan_none {now done : List Int} : ∀ (d x : Nat), (∀ b, x ≤ b → b < x + d → freeB now done b = false) → scan now done x d = none := by
  intro d
  induction d with
  | zero => intro x _; rfl
  | succ d ih =>
    intro x h
    unfold scan
    rw [if_neg (by rw [h x (Nat.le_refl _) (by omega)]; decide)]
    exact ih (x + 1) (fun b hb hb2 => h b (by omega) (by omega))
theorem nfree_split {now done : List Int} {m : Nat} : ∀ (d x : Nat), (∀ b, x ≤ b → b < m → freeB now done b = false) → (∀ b, m ≤ b → b < x + d → freeB now done b = true) → x ≤ m → m ≤ x + d → nfree now done x d = x + d - m := by
  intro d
  induction d with
  | zero => intro x _ _ h1 h2; unfold nfree; omega
  | succ d ih =>
    intro x h h' h1 h2
    unfold nfree
    by_cases hx : x = m
    · subst hx
      rw [if_pos (h' x (Nat.le_refl _) (by omega))]
      have : ∀ (d x : Nat), (∀ b, x ≤ b → b < x + d → freeB now done b = true) → nfree now done x d = d := by
        intro d
        induction d with
        | zero => intro x _; rfl
        | succ d ih2 => intro x h; unfold nfree; rw [if_pos (h x (Nat.le_refl _) (by omega)), ih2 (x + 1) (fun b hb hb2 => h b (by omega) (by omega))]; omega
      rw [this d (x + 1) (fun b hb hb2 => h' b (by omega) (by omega))]
      omega
    · rw [if_neg (by rw [h x (Nat.le_refl _) (by omega)]; decide), ih (x + 1) (fun b hb hb2 => h b (by omega) hb2) (fun b hb hb2 => h' b hb (by omega)) (by omega) (by omega)]
      omega
theorem getD_set (l : List Int) (i j : Nat) (v : Int) (hi : i < l.length) : (l.set i v).getD j 0 = if i = j then v else l.getD j 0 := by
  rw [List.getD_eq_getElem?_getD, List.getD_eq_getElem?_getD]
  by_cases h : i = j
  · subst h
    rw [List.getElem?_set_self hi, if_pos rfl]
    rfl
  · rw [List.getElem?_set_ne h, if_neg h]
theorem getD_zeros (k j : Nat) : (List.replicate k (0 : Int)).getD j 0 = 0 := by
  rw [List.getD_eq_getElem?_getD, List.getElem?_replicate]
  split <;> rfl
theorem free_z {now : List Int} {k b : Nat} {v : Int} (h : now.getD b 0 = v) : freeB now (List.replicate k 0) b = (v == 0) := by
  unfold freeB
  rw [h, getD_zeros]
  simp
/-- From fi on all are taken up to a, and none from there. -/
structure UpTo (now : List Int) (fi a k : Nat) : Prop where
  one : ∀ b, fi ≤ b → b < a → now.getD b 0 = 1
  no : ∀ b, a ≤ b → b < k → now.getD b 0 = 0
theorem UpTo.step {now : List Int} {fi a k : Nat} (h : UpTo now fi a k) (hl : now.length = k) (ha : a < k) : UpTo (now.set a 1) fi (a + 1) k :=
  ⟨fun b h1 h2 => by rw [getD_set _ _ _ _ (by omega)]; split; rfl; exact h.one b h1 (by omega), fun b h1 h2 => by rw [getD_set _ _ _ _ (by omega), if_neg (by omega)]; exact h.no b (by omega) h2⟩
theorem UpTo.scan {now : List Int} {fi a k : Nat} (h : UpTo now fi a k) (hf : fi ≤ a) (ha : a < k) : scan now (List.replicate k 0) fi (k - fi) = some a :=
  scan_some (by rw [free_z (h.no a (Nat.le_refl _) ha)]; rfl) _ _ (fun b h1 h2 => by rw [free_z (h.one b h1 h2)]; rfl) hf (by omega)
theorem UpTo.none {now : List Int} {fi k : Nat} (h : UpTo now fi k k) : P.scan now (List.replicate k 0) fi (k - fi) = .none :=
  scan_none _ _ (fun b h1 h2 => by rw [free_z (h.one b h1 (by omega))]; rfl)
theorem UpTo.free {now : List Int} {fi a k : Nat} (h : UpTo now fi a k) (hf : fi ≤ a) (ha : a ≤ k) : ((nfree now (List.replicate k 0) fi (k - fi) : Nat) : Int) = (k : Int) - (a : Int) := by
  rw [nfree_split (m := a) _ _ (fun b h1 h2 => by rw [free_z (h.one b h1 h2)]; rfl) (fun b h1 h2 => by rw [free_z (h.no b h1 (by omega))]; rfl) hf (by omega)]
  omega
/-- One that is given back is the only one that is free. -/
theorem UpTo.back {now : List Int} {fi a k : Nat} (h : UpTo now fi k k) (hl : now.length = k) (hf : fi ≤ a) (ha : a < k) : P.scan (now.set a 0) (List.replicate k 0) fi (k - fi) = some a :=
  scan_some (by rw [free_z (v := 0) (by rw [getD_set _ _ _ _ (by omega), if_pos rfl])]; rfl) _ _ (fun b h1 h2 => by rw [free_z (v := 1) (by rw [getD_set _ _ _ _ (by omega), if_neg (by omega)]; exact h.one b h1 (by omega))]; rfl) hf (by omega)
theorem UpTo.again {now : List Int} {fi a k : Nat} (h : UpTo now fi k k) (hl : now.length = k) (hf : fi ≤ a) (ha : a < k) : UpTo ((now.set a 0).set a 1) fi k k :=
  ⟨fun b h1 h2 => by rw [List.set_set, getD_set _ _ _ _ (by omega)]; split; rfl; exact h.one b h1 h2, fun b h1 h2 => by omega⟩
/-- What was given back and is not committed is not free. -/
theorem UpTo.held {now : List Int} {fi a k : Nat} (h : UpTo now fi k k) (hl : now.length = k) (ha : a < k) : P.scan (now.set a 0) now fi (k - fi) = .none :=
  scan_none _ _ (fun b h1 h2 => by unfold freeB; rw [h.one b h1 (by omega)]; simp)
theorem UpTo.last {now : List Int} {fi a k : Nat} (h : UpTo now fi k k) (hl : now.length = k) (hf : fi ≤ a) (ha : a < k) : P.scan (now.set a 0) (now.set a 0) fi (k - fi) = some a :=
  scan_some (by unfold freeB; rw [getD_set _ _ _ _ (by omega), if_pos rfl]; rfl) _ _ (fun b h1 h2 => by unfold freeB; rw [getD_set _ _ _ _ (by omega), if_neg (by omega), h.one b h1 (by omega)]; rfl) hf (by omega)
theorem UpTo.get {now : List Int} {fi a k : Nat} (h : UpTo now fi k k) (hl : now.length = k) (hf : fi ≤ a) (ha : a < k) : getR now (a : Int) = 1 := by
  rw [getR_in (by omega)]
  exact h.one a hf ha
set_option maxHeartbeats 4000000 in
set_option maxRecDepth 100000 in
theorem CountsAll_law (z0n : Int) (z1n : Int) (w : World) (h0 : Aside0 ((Lit.int .i64 z0n).wf = true)) (h1 : Aside0 ((Lit.int .i64 z1n).wf = true)) :
    Calls Try.prog 3 #[.int .i64 z0n, .int .i64 z1n] w fun e w' => e = .returned (.bool true) ∧ Below w.heap.size w w' := by
  have HA := Aside0.mk (i64_range h0.out)
  have HB := Aside0.mk (i64_range h1.out)
  clear h0 h1
  have hr := kindR_range z0n 200 (by decide)
  obtain ⟨r, hrr⟩ : ∃ r, kindR z0n 200 = r := ⟨_, rfl⟩
  rw [hrr] at hr
  obtain ⟨hr0, hr1⟩ := hr
  obtain ⟨k, hk⟩ : ∃ k : Nat, 32 + r = (k : Int) := ⟨(32 + r).toNat, by omega⟩
  have HK := Aside0.mk (show 32 ≤ k ∧ k ≤ 2048 ∧ k ≤ 300 from by omega)
  have HRR := Aside0.mk hrr
  have HKE := Aside0.mk hk
  clear hrr hk
  have HFI := Aside0.mk (show 4 ≤ firstOf k ∧ firstOf k < k from by have := HK.out; unfold firstOf areas; omega)
  go_enter Try.func3, Try.ntmps3
  go_wp2_with fail
  refine (law08_shown.st (St.start w)).mono ?_
  rintro e w1 ⟨rfl, hs⟩
  have HS1 := Aside0.mk hs
  clear hs
  go_wp2_with fail
  refine (law08_kind.st z0n 200 HA.out (by decide) (by decide) w1).mono ?_
  rintro e w' ⟨rfl, rfl⟩
  rw [HRR.out]
  go_wp2_with fail
  rw [HKE.out]
  clear hr0 hr1
  refine (ref_Areas.st k HK.out.2.1 w1).mono ?_
  rintro e w' ⟨rfl, rfl⟩
  obtain ⟨fi, hfi⟩ : ∃ fi, firstOf k = fi := ⟨_, rfl⟩
  have HF := Aside0.mk hfi
  rw [hfi] at HFI ⊢
  clear hfi
  generalize areas k = ar at *
  go_wp2_with fail
  refine (counts_New.st HS1.out (k : Int)).mono ?_
  intro e w2 hp
  rw [NewPost, if_pos (by have := HK.out; omega), Int.toNat_natCast, HF.out] at hp
  obtain ⟨g, rfl, hs⟩ := hp
  have HS2 := Aside0.mk hs
  generalize areas k = ar2 at *
  have HU := Aside0.mk (show UpTo (List.replicate k 0) fi fi k from ⟨fun b h1 h2 => by omega, fun b _ _ => getD_zeros k b⟩)
  clear hs HS1
  go_wp2_with fail
  have K := counts_Free.st HS2.out
  rw [HU.out.free (Nat.le_refl _) (by have := HFI.out; omega)] at K
  refine K.mono ?_
  clear K
  rintro e w' ⟨rfl, rfl⟩
  have hb1 : (k : Int) ≤ 300 := by have := HK.out; omega
  have hb2 : (fi : Int) < (k : Int) := by have := HFI.out; omega
  go_wp2_with fail
  go_loopw [11, 12, 13] (fun i _ _ wr => ∃ (a : Nat) (now : List Int), i = .int .i64 a ∧ a ≤ k ∧ Aside0 (fi ≤ a) ∧ Aside0 (St w wr [cnt g k ar2 fi now (List.replicate k 0)]) ∧ Aside0 (UpTo now fi a k)) (fun i _ _ _ => k - (intOf i).toNat)
  case atStart => exact ⟨fi, _, rfl, by omega, ⟨Nat.le_refl _⟩, HS2, HU⟩
  case round =>
    clear HS2 HU
    obtain ⟨a, now, rfl, ha, HFA, HS, HU⟩ := hrel
    by_cases hlt : a < k
    · have h1 : decide ((a : Int) < (k : Int)) = true := decide_eq_true (by omega)
      have h2 : (a : Int) < (k : Int) := by omega
      have HLT := Aside0.mk hlt
      have e1 := Aside0.mk (inc_w a (by have := HK.out; omega))
      clear hlt ha
      go_wp2_with fail
      refine (counts_Alloc.st HS.out _ (HU.out.scan HFA.out HLT.out)).mono ?_
      rintro e w3 ⟨rfl, hs⟩
      have HS3 := Aside0.mk hs
      have HU3 := Aside0.mk (HU.out.step (cnt_out HS.out).1.ln HLT.out)
      clear hs HS
      go_wp2_with fail
      have K := counts_Free.st HS3.out
      rw [HU3.out.free (Nat.le_succ_of_le HFA.out) HLT.out, show (k : Int) - ((a + 1 : Nat) : Int) = (k : Int) - 1 - (a : Int) from by omega] at K
      refine K.mono ?_
      clear K
      rintro e w' ⟨rfl, rfl⟩
      go_wp2_with fail
      exact ⟨⟨a + 1, _, by first | rfl | rw [e1.out], HLT.out, ⟨Nat.le_succ_of_le HFA.out⟩, HS3, HU3⟩, meas_w a k HLT.out _ (by first | rfl | exact e1.out)⟩
    · have h1 : decide ((a : Int) < (k : Int)) = false := decide_eq_false (by omega)
      have h2 : ¬ (a : Int) < (k : Int) := by omega
      obtain rfl : a = k := by omega
      clear ha hlt HFA
      have hq := kindR_range z1n ((a : Int) - (fi : Int)) (by omega)
      obtain ⟨q, hqq⟩ : ∃ q, kindR z1n ((a : Int) - (fi : Int)) = q := ⟨_, rfl⟩
      rw [hqq] at hq
      obtain ⟨b, hb⟩ : ∃ b : Nat, (fi : Int) + q = (b : Int) := ⟨((fi : Int) + q).toNat, by omega⟩
      have HBB := Aside0.mk (show fi ≤ b ∧ b < a from by omega)
      have HQQ := Aside0.mk hqq
      have HBE := Aside0.mk hb
      obtain ⟨hq0, hq1⟩ := hq
      have HLN := Aside0.mk (cnt_out HS.out).1.ln
      clear hqq hb
      go_wp2_with fail
      refine (counts_Alloc.st HS.out _ HU.out.none).mono ?_
      rintro e w3 ⟨rfl, hs⟩
      have HS3 := Aside0.mk hs
      clear hs HS
      go_wp2_with fail
      refine (law08_kind.st z1n ((a : Int) - (fi : Int)) HB.out (by omega) (by omega) w3).mono ?_
      rintro e w' ⟨rfl, rfl⟩
      rw [HQQ.out]
      go_wp2_with fail
      rw [HBE.out]
      clear hq0 hq1
      refine (counts_Unref.st HS3.out (b : Int) 1 (HU.out.get HLN.out HBB.out.1 HBB.out.2)).mono ?_
      intro e w4 hp
      rw [UnrefPost, if_neg (by decide), Int.toNat_natCast] at hp
      obtain ⟨rfl, hs⟩ := hp
      have HS4 := Aside0.mk (show St w w4 [cnt g a ar2 fi (now.set b 0) (List.replicate a 0)] from hs)
      clear hs HS3
      go_wp2_with fail
      refine (counts_Alloc.st HS4.out _ (HU.out.back HLN.out HBB.out.1 HBB.out.2)).mono ?_
      rintro e w5 ⟨rfl, hs⟩
      have HS5 := Aside0.mk hs
      have HU5 := Aside0.mk (HU.out.again HLN.out HBB.out.1 HBB.out.2)
      clear hs HS4
      generalize (now.set b 0).set b 1 = now5 at *
      have HLN5 := Aside0.mk (cnt_out HS5.out).1.ln
      go_wp2_with fail
      refine (counts_Commit.st HS5.out).mono ?_
      rintro e w6 ⟨rfl, hs⟩
      have HS6 := Aside0.mk hs
      clear hs HS5
      go_wp2_with fail
      refine (counts_Unref.st HS6.out (b : Int) 1 (HU5.out.get HLN5.out HBB.out.1 HBB.out.2)).mono ?_
      intro e w7 hp
      rw [UnrefPost, if_neg (by decide), Int.toNat_natCast] at hp
      obtain ⟨rfl, hs⟩ := hp
      have HS7 := Aside0.mk (show St w w7 [cnt g a ar2 fi (now5.set b 0) now5] from hs)
      clear hs HS6
      go_wp2_with fail
      refine (counts_Alloc.st HS7.out _ (HU5.out.held HLN5.out HBB.out.2)).mono ?_
      rintro e w8 ⟨rfl, hs⟩
      have HS8 := Aside0.mk hs
      clear hs HS7
      go_wp2_with fail
      refine (counts_Commit.st HS8.out).mono ?_
      rintro e w9 ⟨rfl, hs⟩
      have HS9 := Aside0.mk hs
      clear hs HS8
      go_wp2_with fail
      refine (counts_Alloc.st HS9.out _ (HU5.out.last HLN5.out HBB.out.1 HBB.out.2)).mono ?_
      rintro e w10 ⟨rfl, hs⟩
      have HS10 := Aside0.mk hs
      clear hs HS9
      go_wp2
      go_ret
      exact ⟨rfl, HS10.out.below⟩
end Go.Proofs.Ytinhiigkfabcfaa.P
