/- Labels: both functions tell the same. -/
import Derived.Test.YtafgfaimenccdaaDoorValidW
import Derived.Test.YtafgfaimenccdaaDoorPx1
import Derived.Test.YtafgfaimenccdaaDoorPx3
namespace Go.Proofs.YtafgfaimenccdaaDoor.P
open Go.RowKit Go.Proofs.YtafgfaimenccdaaDoorW.PrintWords Go.Proofs.YtafgfaimenccdaaDoorW.PrintLast
set_option linter.unusedVariables false
def okL (b : UInt8) : Bool := decide (97 ≤ b.toNat ∧ b.toNat ≤ 122) || decide (48 ≤ b.toNat ∧ b.toNat ≤ 57) || b.toNat == 45
/-- May be a label. -/
def labelR (s : ByteArray) : Bool := ((List.range s.size).all fun j => okL (s.get! j)) && (decide (1 ≤ s.size) && decide (s.size ≤ 10))
def GoodL (s : ByteArray) (n : Nat) : Prop := ∀ j, j < n → j < s.size → okL (s.get! j) = true
theorem labelR_no {s : ByteArray} {j : Nat} (h : j < s.size) (hb : okL (s.get! j) = false) : labelR s = false := by
  unfold labelR
  rw [Bool.and_eq_false_iff]
  refine Or.inl (List.all_eq_false.2 ⟨j, List.mem_range.2 h, by rw [hb]; decide⟩)
theorem labelR_yes {s : ByteArray} (h : GoodL s s.size) : labelR s = (decide (1 ≤ s.size) && decide (s.size ≤ 10)) := by
  unfold labelR
  rw [List.all_eq_true.2 (fun j hj => h j (List.mem_range.1 hj) (List.mem_range.1 hj)), Bool.true_and]
theorem good_step {s : ByteArray} {pos : Nat} (hc : GoodL s pos) (hb : okL (s.get! pos) = true) : GoodL s (pos + 1) := by
  intro j hj hjs
  by_cases hq : j < pos
  · exact hc j hq hjs
  · obtain rfl : j = pos := by omega
    exact hb
theorem refLabel_l0 (s : ByteArray) (hs : s.size ≤ 1000) : ∀ (k pos : Nat), pos ≤ s.size → GoodL s pos → s.size - pos < k → cambiumref07_Label.l0 k s (pos : Int) = some (labelR s)
  | 0, pos, _, _, h => absurd h (Nat.not_lt_zero _)
  | k + 1, pos, hp, hc, h => by
    unfold cambiumref07_Label.l0
    by_cases hlt : pos < s.size
    · rw [if_pos (Int.ofNat_lt.2 hlt), if_pos (Int.natCast_nonneg pos), bt_get s pos hlt, show wrap64 ((pos : Int) + 1) = ((pos + 1 : Nat) : Int) from by unfold wrap64; omega]
      cases ho : okL (s.get! pos) with
      | true =>
        rw [refLabel_l0 s hs k (pos + 1) hlt (good_step hc ho) (by omega)]
        simp only [okL, Bool.or_eq_true, decide_eq_true_eq, beq_iff_eq] at ho
        split <;> (repeat' split) <;> first | rfl | (exfalso; omega)
      | false =>
        rw [labelR_no hlt ho]
        simp only [okL, Bool.or_eq_false_iff, decide_eq_false_iff_not, beq_eq_false_iff_ne] at ho
        split <;> (repeat' split) <;> first | rfl | (exfalso; omega)
    · rw [if_neg (by omega)]
      rw [labelR_yes (fun j hj hjs => hc j (by omega) hjs)]
      by_cases h1 : 1 ≤ s.size
      · rw [if_pos (by omega), decide_eq_true h1, Bool.true_and]
        congr 1
        exact decide_eq_decide.2 (by omega)
      · rw [if_neg (by omega), decide_eq_false h1, Bool.false_and]
theorem refLabel_is (s : ByteArray) (k : Nat) (hs : s.size ≤ 1000) (hk : s.size < k) : cambiumref07_Label.f k s = some (labelR s) :=
  refLabel_l0 s hs k 0 (Nat.zero_le _) (fun j hj => absurd hj (Nat.not_lt_zero _)) (by omega)
theorem rd_bytes (s : ByteArray) (pos : Nat) (h : pos < s.size) : rd (bytesOf s) (pos : Int) = ((s.get! pos).toNat : Int) := by
  rw [rd_bytesOf, bt_get s pos h]
theorem implLabel_l0 (s : ByteArray) (hs : s.size ≤ 1000) : ∀ (n pos k : Nat), pos ≤ s.size → GoodL s pos → s.size - pos ≤ n → 3 * n + 1 ≤ k → super_Label.l0 k s (bytesOf s) ((bytesOf s).length : Int) (pos : Int) = some (labelR s)
  | n, pos, 0, _, _, _, h => absurd h (by omega)
  | n, pos, k + 1, hp, hc, hn, hk => by
    have hl : (bytesOf s).length = s.size := bytesOf_length s
    unfold super_Label.l0
    by_cases hlt : pos < s.size
    · obtain ⟨m, rfl⟩ : ∃ m, n = m + 1 := ⟨n - 1, by omega⟩
      obtain ⟨q, rfl⟩ : ∃ q, k = q + 2 := ⟨k - 2, by omega⟩
      rw [if_pos (by omega), if_pos (Int.natCast_nonneg pos), if_pos (by omega), rd_bytes s pos hlt]
      have hw : wrap64 ((pos : Int) + 1) = ((pos + 1 : Nat) : Int) := by unfold wrap64; omega
      cases ho : okL (s.get! pos) with
      | true =>
        have i1 := implLabel_l0 s hs m (pos + 1) (q + 1) hlt (good_step hc ho) (by omega) (by omega)
        have i0 := implLabel_l0 s hs m (pos + 1) q hlt (good_step hc ho) (by omega) (by omega)
        simp only [okL, Bool.or_eq_true, decide_eq_true_eq, beq_iff_eq] at ho
        simp only [super_Label.j1, super_Label.j2, hw, i1, i0, decide_eq_true_eq]
        split <;> (repeat' split) <;> first | rfl | (exfalso; omega)
      | false =>
        rw [labelR_no hlt ho]
        simp only [okL, Bool.or_eq_false_iff, decide_eq_false_iff_not, beq_eq_false_iff_ne] at ho
        simp only [super_Label.j1, super_Label.j2, hw, decide_eq_true_eq]
        split <;> (repeat' split) <;> first | rfl | (exfalso; omega) | (simp_all; done)
    · rw [if_neg (by omega)]
      rw [labelR_yes (fun j hj hjs => hc j (by omega) hjs)]
      by_cases h1 : 1 ≤ s.size
      · rw [if_pos (by omega), decide_eq_true h1, Bool.true_and]
        congr 1
        exact decide_eq_decide.2 (by omega)
      · rw [if_neg (by omega), decide_eq_false h1, Bool.false_and]
theorem implLabel_is (s : ByteArray) (k : Nat) (hs : s.size ≤ 1000) (hk : 3 * s.size + 1 ≤ k) : super_Label.f k s = some (labelR s) := by
  unfold super_Label.f bytes_conv.f
  rw [if_pos (by omega)]
  exact implLabel_l0 s hs s.size 0 k (Nat.zero_le _) (fun j hj => absurd hj (Nat.not_lt_zero _)) (by omega) hk
end Go.Proofs.YtafgfaimenccdaaDoor.P
