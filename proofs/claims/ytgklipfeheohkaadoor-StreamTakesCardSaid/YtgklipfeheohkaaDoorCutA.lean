import Derived.Test.YtgklipfeheohkaaDoorNameP
import Derived.Test.YtgklipfeheohkaaDoorCutG
import Derived.Test.YtgklipfeheohkaaDoorSep
import Derived.Test.YtgklipfeheohkaaDoorRead
import Derived.Test.YtgklipfeheohkaaDoorRows
import Derived.Lib.Join
import Derived.Test.YtgklipfeheohkaaDoorPx3
namespace Go.Proofs.YtgklipfeheohkaaDoor.P
open Go.RowKit Go.Proofs.YtgklipfeheohkaaDoorW.PrintWords Go.Proofs.YtgklipfeheohkaaDoorW.PrintLast Go.Proofs.YtgklipfeheohkaaDoorW.PrintMore Go.Proofs.YtgklipfeheohkaaDoor.Sep
set_option linter.unusedVariables false
theorem bt_get (s : ByteArray) (pos : Nat) (h : pos < s.size) : bt s (pos : Int) = ((s.get! pos).toNat : Int) := by
  unfold bt
  rw [get!_is s pos h]
  simp only [Int.toNat_natCast]
  rw [dif_pos h]
theorem validR_bad {s : ByteArray} (h20 : ¬ s.size > 20) (h : anyBad s = true) : validR s = 12 := by
  unfold validR
  rw [if_neg h20, h]
  split <;> rfl
theorem Valid_l0 (s : ByteArray) (h20 : ¬ s.size > 20) : ∀ (k pos : Nat), pos ≤ s.size → Clean s pos → s.size - pos < k → cambiumref14_Valid.l0 k s (pos : Int) = some (validR s)
  | 0, pos, _, _, h => absurd h (Nat.not_lt_zero _)
  | k + 1, pos, hp, hc, h => by
    unfold cambiumref14_Valid.l0
    by_cases hlt : pos < s.size
    · rw [if_pos (Int.ofNat_lt.2 hlt), if_pos (Int.natCast_nonneg pos), bt_get s pos hlt]
      by_cases h0 : (s.get! pos).toNat = 0
      · rw [if_pos (by omega), validR_bad h20 (anyBad_yes hlt (by unfold badB; rw [h0]; rfl))]
      · rw [if_neg (by omega)]
        by_cases h47 : (s.get! pos).toNat = 47
        · rw [if_pos (by omega), validR_bad h20 (anyBad_yes hlt (by unfold badB; rw [h47]; rfl))]
        · rw [if_neg (by omega), show wrap64 ((pos : Int) + 1) = ((pos + 1 : Nat) : Int) from by unfold wrap64; omega]
          refine Valid_l0 s h20 k (pos + 1) hlt (fun j hj hjs => ?_) (by omega)
          by_cases hq : j < pos
          · exact hc j hq hjs
          · obtain rfl : j = pos := by omega
            unfold badB
            rw [Bool.or_eq_false_iff]
            exact ⟨beq_false_of_ne h0, beq_false_of_ne h47⟩
    · rw [if_neg (by omega)]
      have hb := anyBad_no (s := s) (fun j hj hjs => hc j (by omega) hjs)
      unfold validR
      rw [if_neg h20, hb]
      by_cases a1 : s.toList = []
      · rw [if_pos a1, if_pos (Or.inl (toList_inj a1))]
      · rw [if_neg a1]
        by_cases a2 : s.toList = [46]
        · rw [if_pos a2, if_pos (Or.inr (Or.inl (toList_inj a2)))]
        · rw [if_neg a2]
          by_cases a3 : s.toList = [46, 46]
          · rw [if_pos a3, if_pos (Or.inr (Or.inr (toList_inj a3)))]
          · rw [if_neg a3, if_neg (by
              rintro (q | q | q)
              · exact a1 (by rw [q, ByteArray.toList_eq])
              · exact a2 (by rw [q, ByteArray.toList_eq])
              · exact a3 (by rw [q, ByteArray.toList_eq]))]
            rfl
/-- The parts are the cut. -/
theorem partsB_data (s : ByteArray) : (partsB s).map (·.data.toList) = cutL s.data.toList := by
  unfold partsB
  rw [Lib.splitB_data]
  exact splitK_cut _
theorem partsB_cut (s : ByteArray) : partsB s = (cutL s.data.toList).map asB := by
  rw [← partsB_data, List.map_map]
  conv => lhs; rw [← List.map_id (partsB s)]
  refine List.map_congr_left fun x _ => ?_
  exact (asB_of x).symm
theorem cutL_length : ∀ l : List UInt8, (cutL l).length ≤ l.length + 1
  | [] => Nat.le_refl _
  | b :: r => by
    obtain ⟨x, xs, hr⟩ := cutL_some r
    have ih := cutL_length r
    by_cases h : b = 47
    · subst h; rw [cutL_slash]; simp; omega
    · rw [cutL_other h hr]; rw [hr] at ih; simp at ih ⊢; omega
theorem partsB_length (s : ByteArray) : (partsB s).length ≤ s.size + 1 := by
  rw [partsB_cut, List.length_map, ← size_is]
  exact cutL_length _
theorem rd_at (l : List ByteArray) (j : Nat) (h : j < l.length) : rdOf ByteArray.empty l (j : Int) = l[j] := by
  unfold rdOf
  rw [Int.toNat_natCast, List.getD_eq_getElem?_getD, List.getElem?_eq_getElem h]
  rfl
theorem wr_ (j : Nat) (h : j ≤ 100000) : wrap64 ((j : Int) + 1) = ((j + 1 : Nat) : Int) := by unfold wrap64; omega
theorem parts_end (s : ByteArray) (hs : s.size ≤ 1000) (i at_ k : Nat) (acc : List ByteArray) (he : i = s.size) (ha : at_ ≤ i) (hk : 2 ≤ k) (hacc : acc.length ≤ i) (hc : (47 : UInt8) ∉ (s.data.toList.drop at_).take (i - at_)) :
    cambiumref14_Parts.l0 k s acc (at_ : Int) (i : Int) = some (acc ++ (cutL (s.data.toList.drop at_)).map asB) := by
  obtain ⟨k, rfl⟩ : ∃ q, k = q + 1 := ⟨k - 1, by omega⟩
  obtain ⟨k, rfl⟩ : ∃ q, k = q + 1 := ⟨k - 1, by omega⟩
  subst he
  have hx : s.data.toList.length = s.size := size_is s
  have hd : (s.data.toList.drop at_).take (s.size - at_) = s.data.toList.drop at_ := List.take_of_length_le (by rw [List.length_drop, hx]; exact Nat.le_refl _)
  rw [hd] at hc
  rw [cutL_one _ hc]
  unfold cambiumref14_Parts.l0
  rw [if_pos (Int.le_refl _), if_pos rfl, if_pos (Int.natCast_nonneg _), if_pos (by omega), if_pos (by omega), wr_ _ (by omega), Int.toNat_natCast, Int.toNat_natCast]
  unfold cambiumref14_Parts.l0
  rw [if_neg (by omega)]
  congr 2
  rw [List.map_cons, List.map_nil]
  congr 1
  refine data_inj ?_
  rw [asB_data, Lib.extract_to_end]
theorem parts_l0 (s : ByteArray) (hs : s.size ≤ 1000) : ∀ (n i at_ k : Nat) (acc : List ByteArray), s.size - i ≤ n → at_ ≤ i → i ≤ s.size → n + 2 ≤ k → acc.length ≤ i → (47 : UInt8) ∉ (s.data.toList.drop at_).take (i - at_) →
    cambiumref14_Parts.l0 k s acc (at_ : Int) (i : Int) = some (acc ++ (cutL (s.data.toList.drop at_)).map asB) := by
  intro n
  induction n with
  | zero =>
    intro i at_ k acc hn ha hi hk hacc hc
    exact parts_end s hs i at_ k acc (by omega) ha (by omega) hacc hc
  | succ n ih =>
    intro i at_ k acc hn ha hi hk hacc hc
    by_cases he : i = s.size
    · exact parts_end s hs i at_ k acc he ha (by omega) hacc hc
    · obtain ⟨k, rfl⟩ : ∃ q, k = q + 1 := ⟨k - 1, by omega⟩
      have hlt : i < s.size := by omega
      have hx : s.data.toList.length = s.size := size_is s
      have hil : i < s.data.toList.length := by omega
      unfold cambiumref14_Parts.l0
      rw [if_pos (by omega), if_neg (by omega), if_pos (Int.natCast_nonneg i), if_pos (Int.ofNat_lt.2 hlt), bt_get s i hlt, get!_is s i hlt]
      have hg : s[i] = s.data.toList[i] := rfl
      have hsplit : s.data.toList.drop at_ = (s.data.toList.drop at_).take (i - at_) ++ s.data.toList[i] :: s.data.toList.drop (i + 1) := by
        have h1 := List.take_append_drop (i - at_) (s.data.toList.drop at_)
        rw [List.drop_drop, show at_ + (i - at_) = i from by omega, List.drop_eq_getElem_cons hil] at h1
        exact h1.symm
      rw [hg]
      by_cases h47 : s.data.toList[i] = 47
      · rw [h47, if_pos (by decide), if_pos (Int.natCast_nonneg _), if_pos (by omega), if_pos (by omega), wr_ _ (by omega), Int.toNat_natCast, Int.toNat_natCast]
        rw [ih (i + 1) (i + 1) k _ (by omega) (Nat.le_refl _) hlt (by omega) (by rw [List.length_append]; simp; omega) (by simp)]
        rw [h47] at hsplit
        rw [hsplit, cutL_first _ _ hc, List.append_assoc, List.map_cons, List.singleton_append]
        congr 3
        refine data_inj ?_
        rw [asB_data, Lib.extract_data]
      · have hn47 : ¬ ((s.data.toList[i].toNat : Nat) : Int) = 47 := by
          intro e
          refine h47 (UInt8.toNat_inj.1 ?_)
          have : (47 : UInt8).toNat = 47 := rfl
          omega
        rw [if_neg hn47, wr_ _ (by omega)]
        rw [ih (i + 1) at_ k acc (by omega) (by omega) hlt (by omega) (by omega) ?_]
        rw [show i + 1 - at_ = (i - at_) + 1 from by omega, List.take_succ_eq_append_getElem (by rw [List.length_drop]; omega), List.mem_append]
        rintro (h | h)
        · exact hc h
        · rw [List.getElem_drop] at h
          simp only [List.mem_singleton] at h
          refine h47 ?_
          rw [h]
          congr 1
          omega
theorem parts_is (s : ByteArray) (hs : s.size ≤ 1000) (k : Nat) (hk : 1100 ≤ k) : cambiumref14_Parts.f k s = some (partsB s) := by
  unfold cambiumref14_Parts.f
  rw [partsB_cut]
  exact parts_l0 s hs s.size 0 0 k [] (by omega) (Nat.le_refl _) (Nat.zero_le _) (by omega) (Nat.le_refl _) (by simp)
theorem Valid_mono (s : ByteArray) (k : Nat) (hk : 100 ≤ k) : cambiumref14_Valid.f k s = some (validR s) := by
  unfold cambiumref14_Valid.f
  by_cases h20 : s.size > 20
  · rw [if_pos (by omega)]
    unfold validR
    rw [if_pos h20]
  · rw [if_neg (by omega)]
    exact Valid_l0 s h20 k 0 (Nat.zero_le _) (fun j hj => absurd hj (Nat.not_lt_zero _)) (by omega)
theorem shown19_is : cambiumlaw19_shown.f 300 = some true := by decide +kernel
theorem refCut_l0 (P : List ByteArray) (hP : P.length ≤ 1000) : ∀ (n j k : Nat), P.length - j ≤ n → j ≤ P.length → n + 200 < k →
    cambiumref19_Cut.l0 k P (j : Int) = some (if firstErr (P.drop j) = 0 then (P, 0) else ([], firstErr (P.drop j)))
  | _, _, 0, _, _, h => absurd h (Nat.not_lt_zero _)
  | n, j, k + 1, hn, hj, hk => by
    unfold cambiumref19_Cut.l0
    by_cases hlt : j < P.length
    · obtain ⟨m, rfl⟩ : ∃ m, n = m + 1 := ⟨n - 1, by omega⟩
      rw [if_pos (Int.ofNat_lt.2 hlt), if_pos (Int.natCast_nonneg j), rd_at P j hlt, Valid_mono _ k (by omega), Option.bind_some, wr_ j (by omega), refCut_l0 P hP m (j + 1) k (by omega) hlt (by omega)]
      rw [List.drop_eq_getElem_cons hlt]
      by_cases hv : validR P[j] = 0
      · rw [if_pos hv, firstErr, if_pos hv]
      · rw [if_neg hv, firstErr, if_neg hv, if_neg hv]
    · rw [if_neg (by omega), List.drop_eq_nil_of_le (show P.length ≤ j by omega), show firstErr [] = 0 from rfl, if_pos rfl]
theorem refCut_is (s : ByteArray) (k : Nat) (hk : 2000 ≤ k) : cambiumref19_Cut.f k s = some (cutR s) := by
  unfold cambiumref19_Cut.f cutR
  by_cases h1 : s.size > 200
  · rw [if_pos (by omega), if_pos h1]
  · have hl := partsB_length s
    rw [if_neg (by omega), if_neg h1, parts_is s (by omega) k (by omega), Option.bind_some]
    have := refCut_l0 (partsB s) (by omega) (partsB s).length 0 k (by omega) (Nat.zero_le _) (by omega)
    refine Eq.trans this ?_
    rw [List.drop_zero]
end Go.Proofs.YtgklipfeheohkaaDoor.P
