/- Labels: what the code and the reference tell. -/
import Derived.Test.YtjpebckmjlmkmaaPx1
import Derived.Test.YtjpebckmjlmkmaaPx3
import Derived.Test.YtjpebckmjlmkmaaPx1
import Derived.Test.YtjpebckmjlmkmaaPx3
namespace Go.Proofs.Ytjpebckmjlmkmaa.SuperLem
open Go.RowKit Go.Proofs.Ytjpebckmjlmkmaa.P Go.Proofs.YtjpebckmjlmkmaaW.PrintWords Go.Proofs.YtjpebckmjlmkmaaW.PrintLast
set_option linter.unusedVariables false
set_option linter.unusedSimpArgs false
/-- A letter, a figure, or a stroke. -/
def lb (c : Int) : Bool := (decide (97 ≤ c) && decide (c ≤ 122)) || (decide (48 ≤ c) && decide (c ≤ 57)) || decide (c = 45)
/-- Whether the rest of a text of n bytes is a label's. -/
def labR (l : List Int) (n : Nat) : Bool := l.all lb && (decide (1 ≤ n) && decide (n ≤ 10))
theorem labR_cons (c : Int) (t : List Int) (n : Nat) : labR (c :: t) n = if lb c = true then labR t n else false := by
  unfold labR
  rw [List.all_cons]
  cases lb c <;> rfl
theorem lb_ge {c : Int} (h : 97 ≤ c) : lb c = decide (c ≤ 122) := by
  unfold lb
  rw [Bool.eq_iff_iff]
  simp
  omega
theorem lb_mid {c : Int} (h1 : ¬ (97 ≤ c ∧ c ≤ 122)) (h : 48 ≤ c) : lb c = decide (c ≤ 57) := by
  unfold lb
  rw [Bool.eq_iff_iff]
  simp
  omega
theorem lb_low {c : Int} (h1 : ¬ (97 ≤ c ∧ c ≤ 122)) (h : ¬ (48 ≤ c ∧ c ≤ 57)) : lb c = decide (c = 45) := by
  unfold lb
  rw [Bool.eq_iff_iff]
  simp
  omega
theorem up1 (i : Nat) (h : i < 9223372036854775807) : wrap64 ((i : Int) + 1) = ((i + 1 : Nat) : Int) := by
  unfold wrap64
  omega
theorem rd_at (l : List Int) (i : Nat) (h : i < l.length) : rd l (i : Int) = l[i] := by
  unfold rd
  rw [Int.toNat_natCast, List.getD_eq_getElem?_getD, List.getElem?_eq_getElem h]
  rfl
theorem bytesOf_length (s : ByteArray) : (bytesOf s).length = s.size := by
  unfold bytesOf
  rw [List.length_map, Array.length_toList]
  rfl
theorem bt_at (s : ByteArray) (i : Nat) (h : i < (bytesOf s).length) : bt s (i : Int) = (bytesOf s)[i] := by
  have hs : i < s.size := by rwa [bytesOf_length] at h
  unfold bt
  rw [Int.toNat_natCast, dif_pos hs]
  simp only [bytesOf, List.getElem_map, Array.getElem_toList]
  rfl
theorem j2_eq (m : Nat) (s : ByteArray) (c : Int) (l : List Int) (n i : Int) (b : Bool) : super_Label.j2 (m + 1) s c l n i b = if b = true then (super_Label.l0 m s l n (wrap64 (i + 1))) else (if c = 45 then (super_Label.l0 m s l n (wrap64 (i + 1))) else (some false)) := by
  rw [super_Label.j2]
theorem j1_eq (m : Nat) (s : ByteArray) (c : Int) (l : List Int) (n i : Int) (b : Bool) : super_Label.j1 (m + 1) s c l n i b = if b = true then (super_Label.l0 m s l n (wrap64 (i + 1))) else (if 48 ≤ c then (super_Label.j2 m s c l n i (decide (c ≤ 57))) else (super_Label.j2 m s c l n i false)) := by
  rw [super_Label.j1]
theorem l0_eq (m : Nat) (s : ByteArray) (l : List Int) (n i : Int) : super_Label.l0 (m + 1) s l n i = if i < n then (if 0 ≤ i then (if i < (l.length : Int) then (if 97 ≤ (rd l i) then (super_Label.j1 m s (rd l i) l n i (decide ((rd l i) ≤ 122))) else (super_Label.j1 m s (rd l i) l n i false)) else (none)) else (none)) else (if (s.size : Int) > 0 then (some (decide ((s.size : Int) ≤ 10))) else (some false)) := by
  rw [super_Label.l0]
theorem labR_nil (n : Nat) : (if (n : Int) > 0 then some (decide ((n : Int) ≤ 10)) else some false) = some (labR [] n) := by
  unfold labR
  by_cases h : (n : Int) > 0
  · rw [if_pos h]
    congr 1
    rw [Bool.eq_iff_iff]
    simp
    omega
  · rw [if_neg h]
    congr 1
    rw [Bool.eq_iff_iff]
    simp
    omega
theorem Label_l0 (s : ByteArray) (l : List Int) (hl : l.length ≤ 9223372036854775807) : ∀ (d k i : Nat), l.length = i + d → 3 * d + 1 ≤ k → super_Label.l0 k s l (l.length : Int) (i : Int) = some (labR (l.drop i) s.size)
  | 0, k, i, hi, hk => by
    obtain ⟨m, rfl⟩ : ∃ m, k = m + 1 := ⟨k - 1, by omega⟩
    rw [l0_eq, if_neg (by omega), List.drop_of_length_le (by omega)]
    exact labR_nil _
  | d + 1, k, i, hi, hk => by
    obtain ⟨m, rfl⟩ : ∃ m, k = m + 3 := ⟨k - 3, by omega⟩
    have hlt : i < l.length := by omega
    have ih : ∀ K, m ≤ K → super_Label.l0 K s l (l.length : Int) (wrap64 ((i : Int) + 1)) = some (labR (l.drop (i + 1)) s.size) := by
      intro K hK
      rw [up1 i (by omega)]
      exact Label_l0 s l hl d K (i + 1) (by omega) (by omega)
    rw [l0_eq, if_pos (by omega), if_pos (by omega), if_pos (by omega), rd_at l i hlt, List.drop_eq_getElem_cons hlt, labR_cons]
    generalize l[i] = c
    by_cases h1 : 97 ≤ c
    · rw [if_pos h1, j1_eq, ih _ (by omega)]
      by_cases h2 : c ≤ 122
      · rw [if_pos (decide_eq_true h2), lb_ge h1, if_pos (decide_eq_true h2)]
      · rw [if_neg (by simpa using h2), if_pos (show 48 ≤ c by omega), j2_eq, if_neg (by simp; omega), if_neg (by omega), lb_ge h1, if_neg (by simpa using h2)]
    · have h12 : ¬ (97 ≤ c ∧ c ≤ 122) := fun q => h1 q.1
      rw [if_neg h1, j1_eq, if_neg (by simp)]
      by_cases h3 : 48 ≤ c
      · rw [if_pos h3, j2_eq, ih _ (by omega), lb_mid h12 h3]
        by_cases h4 : c ≤ 57
        · rw [if_pos (decide_eq_true h4), if_pos (decide_eq_true h4)]
        · rw [if_neg (by simpa using h4), if_neg (by omega), if_neg (by simpa using h4)]
      · rw [if_neg h3, j2_eq, if_neg (by simp), ih _ (by omega), lb_low h12 (fun q => h3 q.1)]
        by_cases h5 : c = 45
        · rw [if_pos h5, if_pos (decide_eq_true h5)]
        · rw [if_neg h5, if_neg (by simpa using h5)]
theorem Label_is (s : ByteArray) (hs : s.size ≤ 9223372036854775807) (k : Nat) (hk : 3 * s.size + 1 ≤ k) : super_Label.f k s = some (labR (bytesOf s) s.size) := by
  have hlen := bytesOf_length s
  unfold super_Label.f bytes_conv.f
  rw [if_pos (by omega), Option.bind_some]
  exact Label_l0 s (bytesOf s) (by omega) s.size k 0 (by omega) hk
theorem ref_eq (m : Nat) (s : ByteArray) (i : Int) (h0 : 0 ≤ i) (h1 : i < (s.size : Int)) : cambiumref07_Label.l0 (m + 1) s i = if lb (bt s i) = true then cambiumref07_Label.l0 m s (wrap64 (i + 1)) else some false := by
  rw [cambiumref07_Label.l0, if_pos h1, if_pos h0]
  generalize bt s i = c
  generalize cambiumref07_Label.l0 m s (wrap64 (i + 1)) = r
  by_cases h1 : 97 ≤ c
  · rw [if_neg (by omega), lb_ge h1]
    by_cases h2 : c ≤ 122
    · rw [if_neg (by omega), if_pos (decide_eq_true h2)]
    · rw [if_pos (by omega), if_neg (by omega), if_pos (by omega), if_neg (by omega), if_neg (by simpa using h2)]
  · have h12 : ¬ (97 ≤ c ∧ c ≤ 122) := fun q => h1 q.1
    rw [if_pos (by omega)]
    by_cases h3 : 48 ≤ c
    · rw [if_neg (by omega), lb_mid h12 h3]
      by_cases h4 : c ≤ 57
      · rw [if_neg (by omega), if_pos (decide_eq_true h4)]
      · rw [if_pos (by omega), if_neg (by omega), if_neg (by simpa using h4)]
    · rw [if_pos (by omega), lb_low h12 (fun q => h3 q.1)]
      by_cases h5 : c = 45
      · rw [if_pos h5, if_pos (decide_eq_true h5)]
      · rw [if_neg h5, if_neg (by simpa using h5)]
theorem ref_l0 (s : ByteArray) (hs : s.size ≤ 9223372036854775807) : ∀ (d k i : Nat), s.size = i + d → d + 1 ≤ k → cambiumref07_Label.l0 k s (i : Int) = some (labR ((bytesOf s).drop i) s.size)
  | 0, k, i, hi, hk => by
    obtain ⟨m, rfl⟩ : ∃ m, k = m + 1 := ⟨k - 1, by omega⟩
    have hlen := bytesOf_length s
    rw [cambiumref07_Label.l0, if_neg (by omega), List.drop_of_length_le (by omega)]
    exact labR_nil _
  | d + 1, k, i, hi, hk => by
    obtain ⟨m, rfl⟩ : ∃ m, k = m + 1 := ⟨k - 1, by omega⟩
    have hlen := bytesOf_length s
    have hlt : i < (bytesOf s).length := by omega
    rw [ref_eq m s i (by omega) (by omega), bt_at s i hlt, List.drop_eq_getElem_cons hlt, labR_cons, up1 i (by omega), ref_l0 s hs d m (i + 1) (by omega) (by omega)]
    split <;> rfl
theorem refLabel_is (s : ByteArray) (hs : s.size ≤ 9223372036854775807) (k : Nat) (hk : s.size + 1 ≤ k) : cambiumref07_Label.f k s = some (labR (bytesOf s) s.size) := by
  unfold cambiumref07_Label.f
  exact ref_l0 s (by omega) s.size k 0 (by omega) hk
end Go.Proofs.Ytjpebckmjlmkmaa.SuperLem
