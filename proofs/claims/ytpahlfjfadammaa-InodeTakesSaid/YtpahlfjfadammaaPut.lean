import Derived.Test.YtpahlfjfadammaaNumRow
import Derived.Test.YtpahlfjfadammaaPx3
import Derived.Test.YtpahlfjfadammaaPx3
import Derived.Test.YtpahlfjfadammaaPx3
import Derived.Test.YtpahlfjfadammaaPx4
import Derived.Test.YtpahlfjfadammaaPx3
import Derived.Test.YtpahlfjfadammaaPx4
import Derived.Test.YtpahlfjfadammaaPx4
/-! What laying down inodes, entries and chunks answers. -/
namespace Go.Proofs.Ytpahlfjfadammaa.NumLem
open Go.RowKit Go.Proofs.Ytpahlfjfadammaa.P Go.Proofs.YtpahlfjfadammaaW.PrintWords Go.Proofs.YtpahlfjfadammaaW.PrintLast
set_option linter.unusedVariables false
set_option linter.unusedSimpArgs false
theorem few_is (l : List Int) : cambiumlaw13_few.f l = some (l.take 300) := by
  unfold cambiumlaw13_few.f
  by_cases h : (l.length : Int) > 300
  · rw [if_pos h, if_pos (by omega)]
  · rw [if_neg h, List.take_of_length_le (by omega)]
theorem told_is (l : List Int) (b : Bool) : inode_told.f l b = some (if b = true then (l, 0) else ([], 1)) := by
  unfold inode_told.f
  split <;> rfl
/-- The fields laid down, one behind the other. -/
def fieldsR : List Int → List S53 → List Int × Bool
  | l, [] => (l, true)
  | l, f :: fs => if f.f0 < f.f2 then ([], false) else if f.f0 > f.f3 then ([], false) else fieldsR (putR l f.f0 f.f1) fs
theorem put_loop (fs : List S53) (d : Nat) : ∀ (k : Nat) (x : List Int) (i : Nat), i + d = fs.length → d < k → fs.length ≤ 10 → x.length + 8 * d ≤ 140737488355320 →
    inode_put.l0 k x fs (fs.length : Int) i = some (fieldsR x (fs.drop i)) := by
  induction d with
  | zero =>
    intro k x i hi hk hf hx
    obtain ⟨k, rfl⟩ : ∃ m, k = m + 1 := ⟨k - 1, by omega⟩
    simp only [inode_put.l0]
    rw [if_neg (by omega), List.drop_of_length_le (by omega)]
    rfl
  | succ d ih =>
    intro k x i hi hk hf hx
    obtain ⟨k, rfl⟩ : ∃ m, k = m + 1 := ⟨k - 1, by omega⟩
    have hil : i < fs.length := by omega
    have hr : rd_T53 fs (i : Int) = fs[i] := by
      unfold rd_T53
      rw [Int.toNat_natCast, List.getD_eq_getElem?_getD, List.getElem?_eq_getElem hil]
      rfl
    simp only [inode_put.l0]
    rw [if_pos (by omega), if_pos (by omega), if_pos (by omega), hr, List.drop_eq_getElem_cons hil]
    unfold fieldsR
    by_cases h1 : fs[i].f0 < fs[i].f2
    · rw [if_pos h1, if_pos h1]
    rw [if_neg h1, if_neg h1]
    by_cases h2 : fs[i].f0 > fs[i].f3
    · rw [if_pos h2, if_pos h2]
    have hl := putR_len x fs[i].f0 fs[i].f1
    have hw : wrap64 ((i : Int) + 1) = ((i + 1 : Nat) : Int) := by unfold wrap64; omega
    rw [if_neg h2, if_neg h2, Put_is _ _ _ (by omega), Option.bind_some, hw]
    exact ih k _ (i + 1) (by omega) (by omega) hf (by omega)
theorem put_fields (k : Nat) (l : List Int) (fs : List S53) (hk : fs.length < k) (hf : fs.length ≤ 10) (hl : l.length ≤ 1000) : inode_put.f k l fs = some (fieldsR l fs) := by
  unfold inode_put.f
  have := put_loop fs fs.length k l 0 (by omega) hk hf (by omega)
  rw [List.drop_zero] at this
  exact this
theorem putR_dig (l : List Int) (x : Int) (n : Nat) (h1 : 1 ≤ n) (h2 : n ≤ 7) (h0 : 0 ≤ x) (hm : x < 256 ^ n) : putR l x n = l ++ digits x n := by
  obtain ⟨m, rfl⟩ : ∃ m : Nat, x = m := ⟨x.toNat, by omega⟩
  exact putR_digits l m n h1 h2 hm
def inodeOk (a0 a1 a2 : Int) : Prop := 1 ≤ a0 ∧ a0 ≤ 2 ∧ 0 ≤ a1 ∧ a1 ≤ 65535 ∧ 0 ≤ a2 ∧ a2 ≤ 2147483647
instance (a0 a1 a2 : Int) : Decidable (inodeOk a0 a1 a2) := by unfold inodeOk; infer_instance
def inodeRow (a0 a1 a2 : Int) : List Int := digits a0 1 ++ (digits a1 2 ++ digits a2 4)
def inodeR (a0 a1 a2 : Int) : List Int × Int := if inodeOk a0 a1 a2 then (inodeRow a0 a1 a2, 0) else ([], 1)
theorem three (a0 a1 a2 : Int) (h : inodeOk a0 a1 a2) : putR (putR (putR [] a0 1) a1 2) a2 4 = inodeRow a0 a1 a2 := by
  unfold inodeOk at h
  have e0 := putR_dig [] a0 1 (by omega) (by omega) (by omega) (by show a0 < 256; omega)
  have e1 := putR_dig (digits a0 1) a1 2 (by omega) (by omega) (by omega) (by show a1 < 65536; omega)
  have e2 := putR_dig (digits a0 1 ++ digits a1 2) a2 4 (by omega) (by omega) (by omega) (by show a2 < 4294967296; omega)
  rw [show (((1 : Nat) : Int)) = 1 from rfl, List.nil_append] at e0
  rw [show (((2 : Nat) : Int)) = 2 from rfl] at e1
  rw [show (((4 : Nat) : Int)) = 4 from rfl] at e2
  unfold inodeRow
  rw [e0, e1, e2, List.append_assoc]
theorem Put_inode (k : Nat) (a0 a1 a2 : Int) (hk : 4 ≤ k) : inode_Put.f k a0 a1 a2 = some (inodeR a0 a1 a2) := by
  unfold inode_Put.f
  rw [put_fields k [] _ (by simp; omega) (by simp) (by simp), Option.bind_some, told_is, Option.bind_some]
  unfold inodeR
  by_cases h : inodeOk a0 a1 a2
  · have h3 := three a0 a1 a2 h
    rw [if_pos h]
    unfold inodeOk at h
    have hv : fieldsR [] [(⟨a0, 1, 1, 2⟩ : S53), ⟨a1, 2, 0, 65535⟩, ⟨a2, 4, 0, 2147483647⟩] = (inodeRow a0 a1 a2, true) := by
      simp only [fieldsR]
      rw [if_neg (by omega), if_neg (by omega), if_neg (by omega), if_neg (by omega), if_neg (by omega), if_neg (by omega), h3]
    simp only [hv, if_true]
  · rw [if_neg h]
    unfold inodeOk at h
    simp only [fieldsR]
    by_cases h0 : a0 < 1
    · simp [h0]
    by_cases h1 : a0 > 2
    · simp [h0, h1]
    by_cases h2 : a1 < 0
    · simp [h0, h1, h2]
    by_cases h3 : a1 > 65535
    · simp [h0, h1, h2, h3]
    by_cases h4 : a2 < 0
    · simp [h0, h1, h2, h3, h4]
    · have h5 : a2 > 2147483647 := by omega
      simp [h0, h1, h2, h3, h4, h5]
def entryOk (s : ByteArray) (a1 a2 : Int) : Prop := 1 ≤ s.size ∧ s.size ≤ 20 ∧ 1 ≤ a1 ∧ a1 ≤ 2147483647 ∧ 1 ≤ a2 ∧ a2 ≤ 2
instance (s : ByteArray) (a1 a2 : Int) : Decidable (entryOk s a1 a2) := by unfold entryOk; infer_instance
def entryRow (s : ByteArray) (a1 a2 : Int) : List Int := digits (bytesOf s).length 1 ++ (bytesOf s ++ (digits a1 4 ++ digits a2 1))
def entryR (s : ByteArray) (a1 a2 : Int) : List Int × Int := if entryOk s a1 a2 then (entryRow s a1 a2, 0) else ([], 1)
theorem text_row (s : ByteArray) (h : s.size ≤ 20) : putRowR [] (bytesOf s) 1 255 = (digits (bytesOf s).length 1 ++ bytesOf s, 0) := by
  have hl := bytesOf_length s
  unfold putRowR
  rw [if_neg (by omega)]
  have := putR_digits [] (bytesOf s).length 1 (by omega) (by omega) (by show ((bytesOf s).length : Int) < 256; omega)
  rw [Int.natCast_one] at this
  rw [this]
  rfl
theorem twoNums (l : List Int) (a1 a2 : Int) (h1 : 1 ≤ a1) (h2 : a1 ≤ 2147483647) (h3 : 1 ≤ a2) (h4 : a2 ≤ 2) : putR (putR l a1 4) a2 1 = l ++ (digits a1 4 ++ digits a2 1) := by
  have e0 := putR_dig l a1 4 (by omega) (by omega) (by omega) (by show a1 < 4294967296; omega)
  have e1 := putR_dig (l ++ digits a1 4) a2 1 (by omega) (by omega) (by omega) (by show a2 < 256; omega)
  rw [show (((4 : Nat) : Int)) = 4 from rfl] at e0
  rw [show (((1 : Nat) : Int)) = 1 from rfl] at e1
  rw [e0, e1, List.append_assoc]
theorem Put_entry (k : Nat) (s : ByteArray) (a1 a2 : Int) (hk : 5 ≤ k) : inode_PutEntry.f k s a1 a2 = some (entryR s a1 a2) := by
  obtain ⟨k, rfl⟩ : ∃ m, k = m + 1 := ⟨k - 1, by omega⟩
  unfold inode_PutEntry.f entryR
  by_cases h0 : (s.size : Int) < 1
  · have : ¬ entryOk s a1 a2 := by unfold entryOk; omega
    rw [if_pos h0, if_neg this]; simp [inode_PutEntry.j0]
  rw [if_neg h0]
  by_cases h1 : (s.size : Int) > 20
  · have : ¬ entryOk s a1 a2 := by unfold entryOk; omega
    rw [if_neg this, decide_eq_true h1]; simp [inode_PutEntry.j0]
  rw [decide_eq_false h1]
  simp only [inode_PutEntry.j0]
  have hl := bytesOf_length s
  have hd := digits_length 1 (bytesOf s).length
  rw [if_neg (by decide), PutText_is _ _ (by simp; omega), Option.bind_some, text_row s (by omega)]
  simp only []
  rw [put_fields k _ _ (by simp; omega) (by simp) (by rw [List.length_append]; omega), Option.bind_some, told_is, Option.bind_some]
  by_cases h : entryOk s a1 a2
  · rw [if_pos h]
    unfold entryOk at h
    have hv : fieldsR (digits (bytesOf s).length 1 ++ bytesOf s) [(⟨a1, 4, 1, 2147483647⟩ : S53), ⟨a2, 1, 1, 2⟩] = (entryRow s a1 a2, true) := by
      simp only [fieldsR]
      rw [if_neg (by omega), if_neg (by omega), if_neg (by omega), if_neg (by omega), twoNums _ _ _ (by omega) (by omega) (by omega) (by omega), List.append_assoc]
      rfl
    simp only [hv, if_true]
  · rw [if_neg h]
    unfold entryOk at h
    simp only [fieldsR]
    by_cases h2 : a1 < 1
    · simp [h2]
    by_cases h3 : a1 > 2147483647
    · simp [h2, h3]
    by_cases h4 : a2 < 1
    · simp [h2, h3, h4]
    · have h5 : a2 > 2 := by omega
      simp [h2, h3, h4, h5]
def extentR (l : List Int) (a : Int) : List Int × Int := if a = 0 then (if 1 ≤ l.length ∧ l.length ≤ 24 then (0 :: l, 0) else ([], 1)) else if l = [] ∧ 1 ≤ a ∧ a ≤ 2047 then (1 :: digits a 2, 0) else ([], 1)
theorem Put_extent (k : Nat) (l : List Int) (a : Int) (hk : 6 ≤ k) (hl : l.length ≤ 1000) : inode_PutExtent.f k l a = some (extentR l a) := by
  obtain ⟨k, rfl⟩ : ∃ m, k = m + 2 := ⟨k - 2, by omega⟩
  unfold inode_PutExtent.f extentR
  by_cases h0 : a = 0
  · subst h0
    rw [if_pos rfl, if_pos rfl]
    by_cases h1 : (l.length : Int) ≥ 1
    · rw [if_pos h1]
      by_cases h2 : (l.length : Int) ≤ 24
      · rw [decide_eq_true h2, if_pos (by omega)]
        simp only [inode_PutExtent.j0, if_true, Option.bind_some]
        rw [if_pos (by simp; omega)]
        rfl
      · rw [decide_eq_false h2, if_neg (by omega)]
        simp [inode_PutExtent.j0, inode_PutExtent.j1]
    · rw [if_neg h1, if_neg (by omega)]
      simp [inode_PutExtent.j0, inode_PutExtent.j1]
  · rw [if_neg h0, if_neg h0]
    simp only [inode_PutExtent.j0, inode_PutExtent.j1]
    rw [if_neg (by decide), if_neg h0]
    by_cases h1 : l = []
    · subst h1
      simp only [List.length_nil, Int.natCast_zero, beq_self_eq_true, if_true]
      rw [put_fields k _ _ (by simp; omega) (by simp) (by simp), Option.bind_some, told_is, Option.bind_some]
      by_cases h : 1 ≤ a ∧ a ≤ 2047
      · have e0 := putR_dig [1] a 2 (by omega) (by omega) (by omega) (by show a < 65536; omega)
        rw [show (((2 : Nat) : Int)) = 2 from rfl] at e0
        have hv : fieldsR [1] [(⟨a, 2, 1, 2047⟩ : S53)] = (1 :: digits a 2, true) := by
          simp only [fieldsR]
          rw [if_neg (by omega), if_neg (by omega), e0]
          rfl
        simp only [hv, if_true]
        rw [if_pos ⟨trivial, h⟩]
      · have hv : fieldsR [1] [(⟨a, 2, 1, 2047⟩ : S53)] = ([], false) := by
          simp only [fieldsR]
          by_cases h2 : a < 1
          · rw [if_pos h2]
          · rw [if_neg h2, if_pos (by omega)]
        have h4 : ¬ (True ∧ 1 ≤ a ∧ a ≤ 2047) := fun q => h q.2
        simp only [hv, if_neg h4]
        rfl
    · have : (((l.length : Nat) : Int) == 0) = false := by
        have : l.length ≠ 0 := fun h => h1 (List.eq_nil_of_length_eq_zero h)
        simpa using this
      rw [this, if_neg (by decide), if_neg (by simp [h1])]
theorem shown_is (k : Nat) (hk : 6 ≤ k) : cambiumlaw13_shown.f = some true := rfl
end Go.Proofs.Ytpahlfjfadammaa.NumLem
