import Derived.Test.YtpahlfjfadammaaTakes
import Derived.Test.YtpahlfjfadammaaPx7
import Derived.Test.YtpahlfjfadammaaPx10
/-! What was put is taken as it was. -/
namespace Go.Proofs.Ytpahlfjfadammaa.NumLem
open Go.RowKit Go.Proofs.Ytpahlfjfadammaa.P Go.Proofs.YtpahlfjfadammaaW.PrintWords Go.Proofs.YtpahlfjfadammaaW.PrintLast
set_option linter.unusedVariables false
set_option linter.unusedSimpArgs false
theorem strOf_bytes (s : ByteArray) : strOfNums (bytesOf s) = s := by
  obtain ⟨⟨l⟩⟩ := s
  unfold strOfNums bytesOf
  simp only [List.map_map]
  have : ((fun n : Int => UInt8.ofNat n.toNat) ∘ fun b : UInt8 => (b.toNat : Int)) = id := by
    funext b
    simp
  rw [this]
  simp
theorem val_dig (a : Int) (n : Nat) (h0 : 0 ≤ a) (h1 : a < 256 ^ n) : val (digits a n) = a := by rw [val_digits, Int.emod_eq_of_lt h0 h1]
theorem cut_first (x y : List Int) (n : Nat) (h : x.length = n) : (x ++ y).take n = x ∧ (x ++ y).drop n = y := by
  subst h
  exact ⟨List.take_left, List.drop_left⟩
theorem inode_back (a0 a1 a2 : Int) (h : inodeOk a0 a1 a2) : (inodeRow a0 a1 a2).length = 7 ∧ inodeT (inodeRow a0 a1 a2) = (a0, a1, a2, 0) := by
  have d0 := digits_length 1 a0
  have d1 := digits_length 2 a1
  have d2 := digits_length 4 a2
  have hl : (inodeRow a0 a1 a2).length = 7 := by unfold inodeRow; simp only [List.length_append, d0, d1, d2]
  have h' := h
  unfold inodeOk at h'
  have c0 := cut_first (digits a0 1) (digits a1 2 ++ digits a2 4) 1 d0
  have c1 := cut_first (digits a1 2) (digits a2 4) 2 d1
  have e0 : val ((inodeRow a0 a1 a2).take 1) = a0 := by unfold inodeRow; rw [c0.1, val_dig a0 1 (by omega) (by show a0 < 256; omega)]
  have e1 : val (((inodeRow a0 a1 a2).drop 1).take 2) = a1 := by unfold inodeRow; rw [c0.2, c1.1, val_dig a1 2 (by omega) (by show a1 < 65536; omega)]
  have e2 : val (((inodeRow a0 a1 a2).drop 3).take 4) = a2 := by
    rw [show (3 : Nat) = 1 + 2 from rfl, ← List.drop_drop]
    unfold inodeRow
    rw [c0.2, c1.2, List.take_of_length_le (by omega), val_dig a2 4 (by omega) (by show a2 < 4294967296; omega)]
  refine ⟨hl, ?_⟩
  unfold inodeT
  rw [e0, e1, e2, if_pos ⟨hl, h⟩]
theorem entry_back (k : Nat) (s : ByteArray) (a1 a2 : Int) (hk : 8 ≤ k) (h : entryOk s a1 a2) : (entryRow s a1 a2).length ≤ 28 ∧ inode_TakeEntry.f k (entryRow s a1 a2) = some (s, a1, a2, 0) := by
  obtain ⟨k, rfl⟩ : ∃ m, k = m + 1 := ⟨k - 1, by omega⟩
  have h' := h
  unfold entryOk at h'
  have hbl := bytesOf_length s
  have d0 := digits_length 1 (bytesOf s).length
  have d1 := digits_length 4 a1
  have d2 := digits_length 1 a2
  have hb : Bytes (entryRow s a1 a2) := (digits_bytes _ _).append ((bytesOf_bytes s).append ((digits_bytes _ _).append (digits_bytes _ _)))
  have hm : Bytes (digits a1 4 ++ digits a2 1) := (digits_bytes _ _).append (digits_bytes _ _)
  have hl : (entryRow s a1 a2).length ≤ 28 := by unfold entryRow; simp only [List.length_append, d0, d1, d2]; omega
  have t1 := take_back (bytesOf s) (digits a1 4 ++ digits a2 1) 1 (by omega) (by omega) (by show ((bytesOf s).length : Int) < 256; omega)
  rw [show (((1 : Nat) : Int)) = 1 from rfl] at t1
  refine ⟨hl, ?_⟩
  unfold inode_TakeEntry.f
  rw [TakeText_is _ hb (by omega), Option.bind_some]
  unfold entryRow
  rw [t1, takes_is (k + 1) _ [4, 1] (by simp; omega) (by simp) hm (by rw [List.length_append]; omega), Option.bind_some, takes2_yes _ (by rw [List.length_append]; omega), if_pos rfl]
  have c1 := cut_first (digits a1 4) (digits a2 1) 4 d1
  rw [c1.1, c1.2, List.take_of_length_le (by omega), val_dig a1 4 (by omega) (by show a1 < 4294967296; omega), val_dig a2 1 (by omega) (by show a2 < 256; omega)]
  have r0 : rd [a1, a2] 0 = a1 := rfl
  have r1 : rd [a1, a2] 1 = a2 := rfl
  have hl2 : (([a1, a2] : List Int).length : Int) = 2 := rfl
  simp only [strOf_bytes, beq_self_eq_true, inode_TakeEntry.j0, if_true, hl2, r0, r1, Put_entry k _ _ _ (by omega), Option.bind_some]
  rw [if_pos (by omega), if_pos (by omega)]
  unfold entryR
  rw [if_pos h]
  rfl
theorem extent_back (k : Nat) (l r : List Int) (a : Int) (hk : 9 ≤ k) (hb : Bytes l) (hl : l.length ≤ 300) (h : extentR l a = (r, 0)) : r.length ≤ 28 ∧ inode_TakeExtent.f k r = some (l, a, 0) := by
  obtain ⟨k, rfl⟩ : ∃ m, k = m + 1 := ⟨k - 1, by omega⟩
  have h2 := h
  unfold extentR at h2
  by_cases h0 : a = 0
  · rw [if_pos h0] at h2
    by_cases hm : 1 ≤ l.length ∧ l.length ≤ 24
    · rw [if_pos hm] at h2
      obtain rfl : 0 :: l = r := congrArg Prod.fst h2
      refine ⟨by simp; omega, ?_⟩
      unfold inode_TakeExtent.f
      have hlen : (((0 :: l).length : Nat) : Int) = (l.length : Int) + 1 := by simp
      have hr : rd (0 :: l) 0 = 0 := rfl
      have hd : ((0 : Int) :: l).drop 1 = l := rfl
      rw [hlen, if_neg (by omega), if_pos (by omega), hr, decide_eq_false (by decide)]
      simp only [inode_TakeExtent.j0]
      rw [if_neg (by decide), hlen, if_pos (by omega), hr, if_pos rfl, if_pos (by omega), hd, if_pos (by simp; omega), Option.bind_some, List.nil_append, Put_extent k l 0 (by omega) (by omega), Option.bind_some]
      subst h0
      rw [h, if_pos rfl]
    · rw [if_neg hm] at h2; cases h2
  · rw [if_neg h0] at h2
    by_cases ho : l = [] ∧ 1 ≤ a ∧ a ≤ 2047
    · rw [if_pos ho] at h2
      obtain rfl : 1 :: digits a 2 = r := congrArg Prod.fst h2
      obtain ⟨rfl, ho1, ho2⟩ := ho
      have d := digits_length 2 a
      have hbd := digits_bytes 2 a
      have hv := val_dig a 2 (by omega) (by show a < 65536; omega)
      refine ⟨by simp [d], ?_⟩
      unfold inode_TakeExtent.f
      have hlen : (((1 :: digits a 2).length : Nat) : Int) = 3 := by simp [d]
      have hr : rd (1 :: digits a 2) 0 = 1 := rfl
      have hd : ((1 : Int) :: digits a 2).drop 1 = digits a 2 := rfl
      rw [hlen, if_neg (by omega), if_pos (by omega), hr, decide_eq_false (by decide)]
      simp only [inode_TakeExtent.j0]
      rw [if_neg (by decide), hlen, if_pos (by omega), hr, if_neg (by decide), if_pos (by omega), hd, takes_is k _ [2] (by simp; omega) (by simp) hbd (by omega), Option.bind_some, takes1]
      have hr1 : rd [a] 0 = a := rfl
      have hl1 : (([a] : List Int).length : Int) = 1 := rfl
      simp only [if_pos d, hv]
      rw [if_pos trivial, hl1, if_pos (by omega), hr1, Put_extent k [] a (by omega) (by simp), Option.bind_some, h, if_pos rfl]
    · rw [if_neg ho] at h2; cases h2
end Go.Proofs.Ytpahlfjfadammaa.NumLem
