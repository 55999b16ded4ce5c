/- What the functions of chapter 14 answer, in plain words. -/
import Derived.Test.YtafgfaimenccdaaDoorNameP
import Derived.Test.YtafgfaimenccdaaDoorLabels
import Derived.Test.YtafgfaimenccdaaDoorPx4
import Derived.Test.YtafgfaimenccdaaDoorPx5
import Derived.Test.YtafgfaimenccdaaDoorPx6
import Derived.Test.YtafgfaimenccdaaDoorPx2
namespace Go.Proofs.YtafgfaimenccdaaDoor.P
open Go.RowKit Go.Proofs.YtafgfaimenccdaaDoorW.PrintWords Go.Proofs.YtafgfaimenccdaaDoorW.PrintLast
set_option linter.unusedVariables false
theorem data_inj {a b : ByteArray} (h : a.data.toList = b.data.toList) : a = b := by
  cases a with | mk a => cases b with | mk b => congr 1; exact Array.toList_inj.1 h
theorem toList_eq2 (a b : ByteArray) : a.toList = b.toList ↔ a = b := by
  rw [ByteArray.toList_eq, ByteArray.toList_eq]
  exact ⟨data_inj, fun h => by rw [h]⟩
def asB (l : List UInt8) : ByteArray := ⟨l.toArray⟩
theorem asB_data (l : List UInt8) : (asB l).data.toList = l := rfl
theorem asB_of (s : ByteArray) : asB s.data.toList = s := by cases s; rfl
theorem size_is (s : ByteArray) : s.data.toList.length = s.size := by cases s; simp [ByteArray.size]
/-- The parts are the cut. -/
theorem partsB_data (s : ByteArray) : (partsB s).map (·.data.toList) = cutL s.data.toList := by
  unfold partsB
  rw [Lib.splitB_data]
  exact splitK_cut _
theorem partsB_cut (s : ByteArray) : partsB s = (cutL s.data.toList).map asB := by
  rw [← partsB_data, List.map_map]
  conv => lhs; rw [← List.map_id (partsB s)]
  refine List.map_congr_left fun x _ => ?_
  exact (asB_of x).symm
theorem cutL_length : ∀ l : List UInt8, (cutL l).length ≤ l.length + 1
  | [] => Nat.le_refl _
  | b :: r => by
    obtain ⟨x, xs, hr⟩ := cutL_some r
    have ih := cutL_length r
    by_cases h : b = 47
    · subst h; rw [cutL_slash]; simp; omega
    · rw [cutL_other h hr]; rw [hr] at ih; simp at ih ⊢; omega
theorem partsB_length (s : ByteArray) : (partsB s).length ≤ s.size + 1 := by
  rw [partsB_cut, List.length_map, ← size_is]
  exact cutL_length _
theorem partsB_ne (s : ByteArray) : 1 ≤ (partsB s).length := by
  obtain ⟨x, xs, h⟩ := cutL_some s.data.toList
  rw [partsB_cut, h]
  simp
theorem rd_at (l : List ByteArray) (j : Nat) (h : j < l.length) : rdOf ByteArray.empty l (j : Int) = l[j] := by
  unfold rdOf
  rw [Int.toNat_natCast, List.getD_eq_getElem?_getD, List.getElem?_eq_getElem h]
  rfl
theorem wr_ (j : Nat) (h : j ≤ 100000) : wrap64 ((j : Int) + 1) = ((j + 1 : Nat) : Int) := by unfold wrap64; omega
theorem drop_same {α : Type} (a b : List α) (j : Nat) (h1 : j < a.length) (h2 : j < b.length) : a.drop j = b.drop j ↔ a[j] = b[j] ∧ a.drop (j + 1) = b.drop (j + 1) := by
  rw [List.drop_eq_getElem_cons h1, List.drop_eq_getElem_cons h2, List.cons.injEq]
/-! Two rows of names. -/
theorem same_l0 (a b : List ByteArray) (hl : a.length = b.length) (ha : a.length ≤ 1000) : ∀ (n j k : Nat), a.length - j ≤ n → j ≤ a.length → n < k → cambiumref14_SameNames.l0 k a b (j : Int) = some (decide (a.drop j = b.drop j))
  | _, _, 0, _, _, h => absurd h (Nat.not_lt_zero _)
  | n, j, k + 1, hn, hj, hk => by
    unfold cambiumref14_SameNames.l0
    by_cases hlt : j < a.length
    · obtain ⟨m, rfl⟩ : ∃ m, n = m + 1 := ⟨n - 1, by omega⟩
      rw [if_pos (Int.ofNat_lt.2 hlt), if_pos (Int.natCast_nonneg j), if_pos (Int.ofNat_lt.2 (by omega)), rd_at a j hlt, rd_at b j (by omega), wr_ j (by omega), same_l0 a b hl ha m (j + 1) k (by omega) hlt (by omega)]
      have hd := drop_same a b j hlt (show j < b.length by omega)
      by_cases h : a[j] = b[j]
      · rw [if_pos ((toList_eq2 _ _).2 h)]
        exact congrArg some (decide_eq_decide.2 ⟨fun q => hd.2 ⟨h, q⟩, fun q => (hd.1 q).2⟩)
      · rw [if_neg (fun q => h ((toList_eq2 _ _).1 q)), decide_eq_false (fun q => h (hd.1 q).1)]
    · rw [if_neg (by omega), List.drop_eq_nil_of_le (by omega), List.drop_eq_nil_of_le (by omega)]
      simp
theorem same_is (a b : List ByteArray) (ha : a.length ≤ 1000) : cambiumref14_SameNames.f 2000 a b = some (decide (a = b)) := by
  unfold cambiumref14_SameNames.f
  by_cases hl : a.length = b.length
  · rw [if_pos (by omega)]
    exact same_l0 a b hl ha a.length 0 2000 (by omega) (Nat.zero_le _) (by omega)
  · rw [if_neg (by omega), decide_eq_false (fun h => hl (by rw [h]))]
theorem equal_l0 (a b : List ByteArray) (hl : a.length = b.length) (ha : a.length ≤ 1000) : ∀ (n j k : Nat), a.length - j ≤ n → j ≤ a.length → n < k → slices_Equal_string_string.l0 k a b (a.length : Int) (j : Int) = some (decide (a.drop j = b.drop j))
  | _, _, 0, _, _, h => absurd h (Nat.not_lt_zero _)
  | n, j, k + 1, hn, hj, hk => by
    unfold slices_Equal_string_string.l0
    by_cases hlt : j < a.length
    · obtain ⟨m, rfl⟩ : ∃ m, n = m + 1 := ⟨n - 1, by omega⟩
      rw [if_pos (Int.ofNat_lt.2 hlt), if_pos (Int.natCast_nonneg j), if_pos (Int.ofNat_lt.2 hlt), if_pos (Int.ofNat_lt.2 (by omega)), rd_at a j hlt, rd_at b j (by omega), wr_ j (by omega), equal_l0 a b hl ha m (j + 1) k (by omega) hlt (by omega)]
      have hd := drop_same a b j hlt (show j < b.length by omega)
      by_cases h : a[j] = b[j]
      · rw [if_pos ((toList_eq2 _ _).2 h)]
        exact congrArg some (decide_eq_decide.2 ⟨fun q => hd.2 ⟨h, q⟩, fun q => (hd.1 q).2⟩)
      · rw [if_neg (fun q => h ((toList_eq2 _ _).1 q)), decide_eq_false (fun q => h (hd.1 q).1)]
    · rw [if_neg (by omega), List.drop_eq_nil_of_le (by omega), List.drop_eq_nil_of_le (by omega)]
      simp
/-- Names lead through others. -/
def belowR (a b : List ByteArray) : Bool := decide (b.length < a.length ∧ a.take b.length = b)
theorem below_is (a b : List ByteArray) (ha : a.length ≤ 1000) : name_Below.f 2000 a b = some (belowR a b) := by
  unfold name_Below.f belowR
  by_cases h : b.length < a.length
  · rw [if_pos h]
    unfold slices_Equal_string_string.f
    have hl : (a.take b.length).length = b.length := by rw [List.length_take]; omega
    rw [if_pos (by rw [hl])]
    have := equal_l0 (a.take b.length) b hl (by omega) (a.take b.length).length 0 2000 (by omega) (Nat.zero_le _) (by omega)
    refine Eq.trans this ?_
    simp [h]
  · rw [if_neg h]
    simp [h]
/-! Paths. -/
theorem parts_end (s : ByteArray) (hs : s.size ≤ 1000) (i at_ k : Nat) (acc : List ByteArray) (he : i = s.size) (ha : at_ ≤ i) (hk : 2 ≤ k) (hacc : acc.length ≤ i) (hc : (47 : UInt8) ∉ (s.data.toList.drop at_).take (i - at_)) :
    cambiumref14_Parts.l0 k s acc (at_ : Int) (i : Int) = some (acc ++ (cutL (s.data.toList.drop at_)).map asB) := by
  obtain ⟨k, rfl⟩ : ∃ q, k = q + 1 := ⟨k - 1, by omega⟩
  obtain ⟨k, rfl⟩ : ∃ q, k = q + 1 := ⟨k - 1, by omega⟩
  subst he
  have hx : s.data.toList.length = s.size := size_is s
  have hd : (s.data.toList.drop at_).take (s.size - at_) = s.data.toList.drop at_ := List.take_of_length_le (by rw [List.length_drop, hx]; exact Nat.le_refl _)
  rw [hd] at hc
  rw [cutL_one _ hc]
  unfold cambiumref14_Parts.l0
  rw [if_pos (Int.le_refl _), if_pos rfl, if_pos (Int.natCast_nonneg _), if_pos (by omega), if_pos (by omega), wr_ _ (by omega), Int.toNat_natCast, Int.toNat_natCast]
  unfold cambiumref14_Parts.l0
  rw [if_neg (by omega)]
  congr 2
  rw [List.map_cons, List.map_nil]
  congr 1
  refine data_inj ?_
  rw [asB_data, Lib.extract_to_end]
theorem parts_l0 (s : ByteArray) (hs : s.size ≤ 1000) : ∀ (n i at_ k : Nat) (acc : List ByteArray), s.size - i ≤ n → at_ ≤ i → i ≤ s.size → n + 2 ≤ k → acc.length ≤ i → (47 : UInt8) ∉ (s.data.toList.drop at_).take (i - at_) →
    cambiumref14_Parts.l0 k s acc (at_ : Int) (i : Int) = some (acc ++ (cutL (s.data.toList.drop at_)).map asB) := by
  intro n
  induction n with
  | zero =>
    intro i at_ k acc hn ha hi hk hacc hc
    exact parts_end s hs i at_ k acc (by omega) ha (by omega) hacc hc
  | succ n ih =>
    intro i at_ k acc hn ha hi hk hacc hc
    by_cases he : i = s.size
    · exact parts_end s hs i at_ k acc he ha (by omega) hacc hc
    · obtain ⟨k, rfl⟩ : ∃ q, k = q + 1 := ⟨k - 1, by omega⟩
      have hlt : i < s.size := by omega
      have hx : s.data.toList.length = s.size := size_is s
      have hil : i < s.data.toList.length := by omega
      unfold cambiumref14_Parts.l0
      rw [if_pos (by omega), if_neg (by omega), if_pos (Int.natCast_nonneg i), if_pos (Int.ofNat_lt.2 hlt), bt_get s i hlt, get!_is s i hlt]
      have hg : s[i] = s.data.toList[i] := rfl
      have hsplit : s.data.toList.drop at_ = (s.data.toList.drop at_).take (i - at_) ++ s.data.toList[i] :: s.data.toList.drop (i + 1) := by
        have h1 := List.take_append_drop (i - at_) (s.data.toList.drop at_)
        rw [List.drop_drop, show at_ + (i - at_) = i from by omega, List.drop_eq_getElem_cons hil] at h1
        exact h1.symm
      rw [hg]
      by_cases h47 : s.data.toList[i] = 47
      · rw [h47, if_pos (by decide), if_pos (Int.natCast_nonneg _), if_pos (by omega), if_pos (by omega), wr_ _ (by omega), Int.toNat_natCast, Int.toNat_natCast]
        rw [ih (i + 1) (i + 1) k _ (by omega) (Nat.le_refl _) hlt (by omega) (by rw [List.length_append]; simp; omega) (by simp)]
        rw [h47] at hsplit
        rw [hsplit, cutL_first _ _ hc, List.append_assoc, List.map_cons, List.singleton_append]
        congr 3
        refine data_inj ?_
        rw [asB_data, Lib.extract_data]
      · have hn47 : ¬ ((s.data.toList[i].toNat : Nat) : Int) = 47 := by
          intro e
          refine h47 (UInt8.toNat_inj.1 ?_)
          have : (47 : UInt8).toNat = 47 := rfl
          omega
        rw [if_neg hn47, wr_ _ (by omega)]
        rw [ih (i + 1) at_ k acc (by omega) (by omega) hlt (by omega) (by omega) ?_]
        rw [show i + 1 - at_ = (i - at_) + 1 from by omega, List.take_succ_eq_append_getElem (by rw [List.length_drop]; omega), List.mem_append]
        rintro (h | h)
        · exact hc h
        · rw [List.getElem_drop] at h
          simp only [List.mem_singleton] at h
          refine h47 ?_
          rw [h]
          congr 1
          omega
theorem parts_is (s : ByteArray) (hs : s.size ≤ 1000) (k : Nat) (hk : 1100 ≤ k) : cambiumref14_Parts.f k s = some (partsB s) := by
  unfold cambiumref14_Parts.f
  rw [partsB_cut]
  exact parts_l0 s hs s.size 0 0 k [] (by omega) (Nat.le_refl _) (Nat.zero_le _) (by omega) (Nat.le_refl _) (by simp)
def splitR (s : ByteArray) : ByteArray × List ByteArray × Int :=
  if s.size > 200 then (⟨#[]⟩, [], 7)
  else if Lib.hasPrefix s.data.toList [47] = false then (⟨#[]⟩, [], 12)
  else if restB s = ⟨#[]⟩ then (⟨#[]⟩, [], 0)
  else if labelR ((partsB (restB s)).getD 0 ⟨#[]⟩) = false then (⟨#[]⟩, [], 12)
  else if firstErr ((partsB (restB s)).drop 1) = 0 then ((partsB (restB s)).getD 0 ⟨#[]⟩, (partsB (restB s)).drop 1, 0)
  else (⟨#[]⟩, [], firstErr ((partsB (restB s)).drop 1))
theorem restB_le (s : ByteArray) : (restB s).size ≤ s.size := by
  show (Lib.trimPrefix s.data.toList [47]).toArray.size ≤ s.data.size
  unfold Lib.trimPrefix
  split <;> simp
theorem flat_length : ∀ (l : List UInt8), ∀ x ∈ cutL l, x.length ≤ l.length
  | [], x, hx => by
    obtain rfl : x = [] := by simpa [cutL] using hx
    exact Nat.le_refl _
  | b :: r, y, hy => by
    obtain ⟨x, xs, hr⟩ := cutL_some r
    have ih := flat_length r
    by_cases h : b = 47
    · subst h
      rw [cutL_slash, List.mem_cons] at hy
      rcases hy with rfl | hy
      · simp
      · have := ih y hy; simp; omega
    · rw [cutL_other h hr, List.mem_cons] at hy
      rcases hy with rfl | hy
      · have := ih x (by rw [hr]; simp); simp; omega
      · have := ih y (by rw [hr]; simp [hy]); simp; omega
theorem partsB_le (s : ByteArray) (x : ByteArray) (h : x ∈ partsB s) : x.size ≤ s.size := by
  rw [partsB_cut, List.mem_map] at h
  obtain ⟨l, hl, rfl⟩ := h
  have := flat_length _ l hl
  rw [size_is] at this
  show l.toArray.size ≤ _
  simpa using this
theorem getD_parts (s : ByteArray) : (partsB s).getD 0 ⟨#[]⟩ ∈ partsB s := by
  have h := partsB_ne s
  rw [List.getD_eq_getElem?_getD, List.getElem?_eq_getElem h]
  exact List.getElem_mem _
theorem split_is (s : ByteArray) : name_Split.f 2000 s = some (splitR s) := by
  unfold name_Split.f splitR
  by_cases h1 : s.size > 200
  · rw [if_pos h1, if_pos h1]
  · rw [if_neg h1, if_neg h1]
    by_cases h2 : Lib.hasPrefix s.data.toList [47] = false
    · rw [if_pos h2, if_pos h2]
    · rw [if_neg h2, if_neg h2]
      by_cases h3 : restB s = ⟨#[]⟩
      · rw [if_pos h3, if_pos h3]
      · rw [if_neg h3, if_neg h3]
        have hle := partsB_le _ _ (getD_parts (restB s))
        have hr := restB_le s
        rw [implLabel_is _ 2000 (by omega) (by omega), Option.bind_some]
        cases labelR ((partsB (restB s)).getD 0 ⟨#[]⟩) with
        | false => rfl
        | true =>
          simp only [Bool.true_eq_false, if_false]
          split <;> rfl
theorem split_len (s : ByteArray) : (splitR s).2.1.length ≤ 1000 := by
  unfold splitR
  repeat' split
  all_goals first | exact Nat.zero_le _ | skip
  have h1 := partsB_length (restB s)
  have h2 := restB_le s
  show ((partsB (restB s)).drop 1).length ≤ 1000
  rw [List.length_drop]
  omega
theorem Valid_mono (s : ByteArray) (k : Nat) (hk : 100 ≤ k) : cambiumref14_Valid.f k s = some (validR s) := by
  unfold cambiumref14_Valid.f
  by_cases h20 : s.size > 20
  · rw [if_pos (by omega)]
    unfold validR
    rw [if_pos h20]
  · rw [if_neg (by omega)]
    exact Valid_l0 s h20 k 0 (Nat.zero_le _) (fun j hj => absurd hj (Nat.not_lt_zero _)) (by omega)
theorem split_l0 (P : List ByteArray) (hP : P.length ≤ 1000) (h1 : 1 ≤ P.length) : ∀ (n j k : Nat), P.length - j ≤ n → j ≤ P.length → n + 200 < k →
    cambiumref14_Split.l0 k P (j : Int) = some (if firstErr (P.drop j) = 0 then (P.getD 0 ⟨#[]⟩, P.drop 1, 0) else (⟨#[]⟩, [], firstErr (P.drop j)))
  | _, _, 0, _, _, h => absurd h (Nat.not_lt_zero _)
  | n, j, k + 1, hn, hj, hk => by
    unfold cambiumref14_Split.l0
    by_cases hlt : j < P.length
    · obtain ⟨m, rfl⟩ : ∃ m, n = m + 1 := ⟨n - 1, by omega⟩
      rw [if_pos (Int.ofNat_lt.2 hlt), if_pos (Int.natCast_nonneg j), rd_at P j hlt, Valid_mono _ k (by omega), Option.bind_some, wr_ j (by omega), split_l0 P hP h1 m (j + 1) k (by omega) hlt (by omega)]
      rw [List.drop_eq_getElem_cons hlt]
      by_cases hv : validR P[j] = 0
      · rw [if_pos hv, firstErr, if_pos hv]
      · rw [if_neg hv, firstErr, if_neg hv, if_neg hv]
    · rw [if_neg (by omega), if_pos (by omega), if_pos (by omega), List.drop_eq_nil_of_le (show P.length ≤ j by omega)]
      rw [show firstErr [] = 0 from rfl, if_pos rfl]
      have := rd_at P 0 (by omega)
      rw [show ((0 : Nat) : Int) = 0 from rfl] at this
      rw [this, List.getD_eq_getElem?_getD, List.getElem?_eq_getElem (show 0 < P.length by omega)]
      rfl
theorem pre_cons (b : UInt8) (r : List UInt8) : Lib.hasPrefix (b :: r) [47] = true ↔ b = 47 := by
  unfold Lib.hasPrefix
  rw [List.isPrefixOf, List.isPrefixOf, Bool.and_true, beq_iff_eq]
  exact eq_comm
theorem pre_is (s : ByteArray) : Lib.hasPrefix s.data.toList [47] = true ↔ ∃ h : 0 < s.size, s[0] = 47 := by
  rcases s with ⟨⟨l⟩⟩
  cases l with
  | nil => exact ⟨fun h => absurd h (by decide), fun ⟨h, _⟩ => absurd h (Nat.lt_irrefl 0)⟩
  | cons b r =>
    constructor
    · intro h
      refine ⟨Nat.succ_pos _, ?_⟩
      exact (pre_cons b r).1 h
    · rintro ⟨_, h⟩
      exact (pre_cons b r).2 h
theorem rest_is (s : ByteArray) (h : Lib.hasPrefix s.data.toList [47] = true) : restB s = s.extract 1 s.size := by
  refine data_inj ?_
  rw [Lib.extract_to_end]
  unfold restB Lib.trimPrefix
  rw [if_pos h]
  rfl
theorem rest_empty (s : ByteArray) (h : Lib.hasPrefix s.data.toList [47] = true) : restB s = ⟨#[]⟩ ↔ s.toList = [47] := by
  rcases s with ⟨⟨l⟩⟩
  rw [ByteArray.toList_eq]
  cases l with
  | nil => exact absurd h (by decide)
  | cons b r =>
    have hb : b = 47 := (pre_cons b r).1 h
    subst hb
    unfold restB Lib.trimPrefix
    rw [if_pos h]
    constructor
    · intro q
      have h2 : r = [] := congrArg (fun x : ByteArray => x.data.toList) q
      rw [h2]
    · intro q
      have h2 : r = [] := (List.cons.inj q).2
      subst h2
      rfl
theorem refSplit_is (s : ByteArray) : cambiumref14_Split.f 3000 s = some (splitR s) := by
  unfold cambiumref14_Split.f splitR
  by_cases h1 : s.size > 200
  · rw [if_pos (by omega), if_pos h1]
  · rw [if_neg (by omega), if_neg h1]
    have tail : ∀ b, b = !(Lib.hasPrefix s.data.toList [47]) → cambiumref14_Split.j0 3000 s b = some (if Lib.hasPrefix s.data.toList [47] = false then (⟨#[]⟩, [], 12)
  else if restB s = ⟨#[]⟩ then (⟨#[]⟩, [], 0)
  else if labelR ((partsB (restB s)).getD 0 ⟨#[]⟩) = false then (⟨#[]⟩, [], 12)
  else if firstErr ((partsB (restB s)).drop 1) = 0 then ((partsB (restB s)).getD 0 ⟨#[]⟩, (partsB (restB s)).drop 1, 0)
  else (⟨#[]⟩, [], firstErr ((partsB (restB s)).drop 1))) := by
      intro b hb
      subst hb
      rw [show (3000 : Nat) = 2999 + 1 from rfl, cambiumref14_Split.j0]
      cases hp : Lib.hasPrefix s.data.toList [47] with
      | false => rfl
      | true =>
        rw [if_neg (show ¬ (!true) = true by decide), if_neg (show ¬ true = false by decide)]
        by_cases h3 : restB s = ⟨#[]⟩
        · rw [if_pos ((rest_empty s hp).1 h3), if_pos h3]
        · obtain ⟨h0, _⟩ := (pre_is s).1 hp
          rw [if_neg (fun q => h3 ((rest_empty s hp).2 q)), if_neg h3, if_pos (by omega), ← rest_is s hp]
          have hr := restB_le s
          have hn := partsB_ne (restB s)
          have hl := partsB_length (restB s)
          have hle := partsB_le _ _ (getD_parts (restB s))
          have hg : rdOf ByteArray.empty (partsB (restB s)) 0 = (partsB (restB s)).getD 0 ⟨#[]⟩ := rfl
          rw [parts_is _ (by omega) 2999 (by omega), Option.bind_some, if_pos (by omega), hg, refLabel_is _ 2999 (by omega) (by omega), Option.bind_some]
          cases labelR ((partsB (restB s)).getD 0 ⟨#[]⟩) with
          | false => rfl
          | true =>
            rw [if_pos rfl, if_neg (by decide)]
            have := split_l0 (partsB (restB s)) (by omega) hn (partsB (restB s)).length 1 2999 (by omega) (by omega) (by omega)
            exact this
    by_cases h0 : s.toList = []
    · rw [if_pos h0]
      refine tail true ?_
      rw [toList_inj h0]
      rfl
    · have hs0 : 0 < s.size := by
        rcases Nat.eq_zero_or_pos s.size with q | q
        · exact absurd (by rw [ByteArray.toList_eq]; exact List.eq_nil_of_length_eq_zero (by rw [size_is]; exact q)) h0
        · exact q
      rw [if_neg h0, if_pos (by omega)]
      refine tail _ ?_
      have hb := bt_get s 0 hs0
      rw [show ((0 : Nat) : Int) = 0 from rfl] at hb
      rw [hb, get!_is s 0 hs0]
      by_cases h47 : s[0] = 47
      · rw [(pre_is s).2 ⟨hs0, h47⟩, h47]
        rfl
      · cases hp : Lib.hasPrefix s.data.toList [47] with
        | true => exact absurd ((pre_is s).1 hp).2 h47
        | false =>
          show ((s[0].toNat : Int) != 47) = true
          refine bne_iff_ne.2 fun e => h47 (UInt8.toNat_inj.1 ?_)
          have : (47 : UInt8).toNat = 47 := rfl
          omega
end Go.Proofs.YtafgfaimenccdaaDoor.P
