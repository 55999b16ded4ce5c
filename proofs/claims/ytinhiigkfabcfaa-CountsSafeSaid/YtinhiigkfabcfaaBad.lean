/- CountsBad's walk. -/
import Derived.Test.YtinhiigkfabcfaaCnt4
namespace Go.Proofs.Ytinhiigkfabcfaa.P
open Go.RowKit Go.Proofs.YtinhiigkfabcfaaW.PrintWords Go.Proofs.YtinhiigkfabcfaaW.PrintLast Go.Proofs.YtinhiigkfabcfaaW.PrintMore Go.Proofs.Ytinhiigkfabcfaa.Sep
set_option linter.unusedVariables false
attribute [local go_sem] max2_int min2_int max_two min_two max_three min_three max_four min_four
def Bd (m : Nat) (l : List Int) : Prop := ∀ x ∈ l, x ≤ (m : Int)
theorem Bd.set {m : Nat} {l : List Int} (h : Bd m l) (a : Nat) (x : Int) (hx : x ≤ (m : Int) + 1) : Bd (m + 1) (l.set a x) := by
  intro y hy
  rcases List.mem_or_eq_of_mem_set hy with hy | rfl
  · have := h y hy; omega
  · omega
theorem Bd.up {m : Nat} {l : List Int} (h : Bd m l) : Bd (m + 1) l := fun x hx => by have := h x hx; omega
theorem Bd.get {m : Nat} {l : List Int} (h : Bd m l) (a : Int) : getR l a ≤ (m : Int) := by
  unfold getR
  split
  · rw [List.getD_eq_getElem?_getD]
    by_cases ha : a.toNat < l.length
    · rw [List.getElem?_eq_getElem ha]; exact h _ (List.getElem_mem ha)
    · rw [List.getElem?_eq_none (by omega)]; exact Int.natCast_nonneg m
  · exact Int.natCast_nonneg m
theorem Bd.step {m fi n : Nat} {s : CS} (h : Bd m s.1) (o : OpC) : Bd (m + 1) (playStep fi n s o).1 := by
  unfold playStep refS unrefS allocS
  have hg := h.get o.a
  split
  · split
    · exact h.up
    · split
      · exact h.up
      · exact h.set _ _ (by omega)
  · split
    · split
      · exact h.up
      · exact h.set _ _ (by omega)
    · split
      · exact h.up
      · split
        · exact h.set _ _ (by omega)
        · exact h.up
theorem Bd.playK {fi n : Nat} {l : List OpC} {s : CS} (h : Bd 0 s.1) : ∀ j, j ≤ l.length → Bd j (playK fi n l s j).1 := by
  intro j
  induction j with
  | zero => intro _; exact h
  | succ j ih => intro hj; rw [playK_succ fi n l s j hj ⟨0, 0⟩]; exact (ih (by omega)).step _
theorem Bd.playR {fi n : Nat} {l : List OpC} {s : CS} (h : Bd 0 s.1) (a : Int) : getR (playR fi n l s).1 a ≤ 60 := by
  have h1 := (Bd.playK (fi := fi) (n := n) h (min l.length 60) (Nat.min_le_left _ _)).get a
  have : min l.length 60 ≤ 60 := Nat.min_le_right _ _
  show getR (P.playK fi n l s (min l.length 60)).1 a ≤ 60
  omega
theorem getR_set {l : List Int} {i : Nat} (h : i < l.length) (x : Int) : getR (l.set i x) (i : Int) = x := by
  rw [getR_in (by rw [List.length_set]; exact h), List.getD_eq_getElem?_getD, List.getElem?_set_self h]
  rfl
theorem zeros_Bd (n : Nat) : Bd 0 (List.replicate n (0 : Int)) := fun x hx => by rw [List.eq_of_mem_replicate hx]; decide
set_option maxHeartbeats 2000000 in
theorem CountsBad_law (z0A : Option Addr) (z0c : Nat) (z0l : (List OpC)) (z1n : Int) (w : World) (h0 : Aside0 (z0l.length ≤ z0c ∧ Kd.C kOpC w z0A z0l.length z0l ∧ (z0l.length ≤ maxLen ∧ ∀ y0_ ∈ z0l, ((Lit.int .i64 y0_.kind).wf = true ∧ (Lit.int .i64 y0_.a).wf = true)))) (h1 : Aside0 ((Lit.int .i64 z1n).wf = true)) :
    Calls Try.prog 5 #[.slice z0A z0l.length z0c, .int .i64 z1n] w fun e w' => e = .returned (.bool true) ∧ Below w.heap.size w w' := by
  have HR := Aside0.mk h0.out.2.1
  have HW := Aside0.mk (fun (o : OpC) (ho : o ∈ z0l) => i64_range (h0.out.2.2.2 o ho).1)
  clear h0 h1
  obtain ⟨N, hN⟩ : ∃ N, z0l.length = N := ⟨_, rfl⟩
  rw [hN] at HR ⊢
  clear hN
  go_enter Try.func5, Try.ntmps5
  go_wp2_with fail
  refine (law08_shown.st (St.start w)).mono ?_
  rintro e w1 ⟨rfl, hs⟩
  have HS1 := Aside0.mk hs
  clear hs
  go_wp2_with fail
  refine (counts_New.st HS1.out 64).mono ?_
  intro e w2 hp
  rw [NewPost, if_pos (by decide)] at hp
  obtain ⟨g, rfl, hs⟩ := hp
  have HS2 := Aside0.mk (show St w w2 [cnt g 64 (areas 64) (firstOf 64) (List.replicate 64 0, List.replicate 64 0).1 (List.replicate 64 0, List.replicate 64 0).2] from hs)
  clear hs HS1
  go_wp2_with fail
  refine (law08_play.st (s := (List.replicate 64 0, List.replicate 64 0)) HS2.out HR.out HW.out).mono ?_
  rintro e w3 ⟨rfl, hs⟩
  have HBD := Aside0.mk (Bd.playR (fi := firstOf 64) (n := 64) (l := z0l) (s := (List.replicate 64 0, List.replicate 64 0)) (zeros_Bd 64) z1n)
  generalize playR (firstOf 64) 64 z0l (List.replicate 64 0, List.replicate 64 0) = s at *
  obtain ⟨now, done⟩ := s
  have HS3 := Aside0.mk (show St w w3 [cnt g 64 (areas 64) (firstOf 64) now done] from hs)
  have HCP := Aside0.mk (cnt_out HS3.out).1
  clear hs HS2
  obtain ⟨x, hx⟩ : ∃ x, getR now z1n = x := ⟨_, rfl⟩
  have HX := Aside0.mk hx
  have HXB := Aside0.mk (show 0 ≤ x ∧ x ≤ 60 from ⟨hx ▸ (getR_range HCP.out.cn z1n).1, hx ▸ HBD.out⟩)
  clear hx
  go_wp2_with fail
  refine (counts_Get.st HS3.out z1n).mono ?_
  rintro e w' ⟨rfl, rfl⟩
  rw [HX.out]
  go_wp2_with fail
  refine (counts_Free.st HS3.out).mono ?_
  rintro e w' ⟨rfl, rfl⟩
  by_cases h0 : x = 0
  · subst h0
    go_wp2_with fail
    refine (counts_Unref.st HS3.out z1n 0 HX.out).mono ?_
    intro e w4 hp
    rw [UnrefPost, if_pos rfl] at hp
    obtain ⟨rfl, hs⟩ := hp
    have HS4 := Aside0.mk hs
    clear hs HS3
    go_wp2_with fail
    refine (counts_Ref.st HS4.out z1n 0 HX.out).mono ?_
    intro e w5 hp
    rw [RefPost, if_pos rfl] at hp
    obtain ⟨rfl, hs⟩ := hp
    have HS5 := Aside0.mk hs
    clear hs HS4
    go_wp2_with fail
    refine (counts_Get.st HS5.out z1n).mono ?_
    rintro e w' ⟨rfl, rfl⟩
    rw [HX.out]
    go_wp2_with fail
    refine (counts_Free.st HS5.out).mono ?_
    rintro e w' ⟨rfl, rfl⟩
    go_wp2_with fail
    have K := counts_Fresh.st HS5.out z1n
    rw [show freshB now done z1n = false from by unfold freshB; rw [HX.out]; rfl] at K
    refine K.mono ?_
    clear K
    rintro e w' ⟨rfl, rfl⟩
    go_wp2
    go_ret
    exact ⟨rfl, HS5.out.below⟩
  · obtain ⟨i, hi, hil⟩ := getR_pos (by rw [HX.out]; exact h0)
    subst hi
    have hx0 : (x == 0) = false := by simp [h0]
    have HX0 := Aside0.mk h0
    have HIL := Aside0.mk hil
    have hb1 := HXB.out.1
    have hb2 := HXB.out.2
    clear h0 hil
    go_wp2_with fail
    refine (counts_Ref.st HS3.out (i : Int) x HX.out).mono ?_
    intro e w4 hp
    rw [RefPost, if_neg HX0.out, if_neg (by have := HXB.out; omega), Int.toNat_natCast] at hp
    obtain ⟨rfl, hs⟩ := hp
    have HS4 := Aside0.mk hs
    clear hs HS3
    go_wp2_with fail
    have K := counts_Get.st HS4.out (i : Int)
    rw [getR_set HIL.out] at K
    refine K.mono ?_
    clear K
    rintro e w' ⟨rfl, rfl⟩
    go_wp2
    go_ret
    exact ⟨rfl, HS4.out.below⟩
end Go.Proofs.Ytinhiigkfabcfaa.P
