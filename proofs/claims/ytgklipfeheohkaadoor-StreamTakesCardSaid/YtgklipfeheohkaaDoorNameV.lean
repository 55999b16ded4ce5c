import Derived.Lib.DecodeN
import Derived.Laws.RangeAny
import Derived.Laws.RangeString
namespace Go.Proofs.YtgklipfeheohkaaDoor.P
open Go
set_option linter.unusedVariables false
/-- Nought or a slash. -/
def badB (b : UInt8) : Bool := b.toNat == 0 || b.toNat == 47
def anyBad (s : ByteArray) : Bool := (List.range s.size).any fun j => badB (s.get! j)
/-- What is wrong with a name. -/
def validR (s : ByteArray) : Int := if s.size > 20 then 7 else if s = ⟨#[]⟩ ∨ s = ⟨#[46]⟩ ∨ s = ⟨#[46, 46]⟩ then 12 else if anyBad s then 12 else 0
def Clean (s : ByteArray) (n : Nat) : Prop := ∀ j, j < n → j < s.size → badB (s.get! j) = false
theorem anyBad_no {s : ByteArray} (h : Clean s s.size) : anyBad s = false := by
  unfold anyBad
  rw [List.any_eq_false]
  intro j hj
  rw [h j (List.mem_range.1 hj) (List.mem_range.1 hj)]
  decide
theorem anyBad_yes {s : ByteArray} {j : Nat} (h : j < s.size) (hb : badB (s.get! j) = true) : anyBad s = true :=
  List.any_eq_true.2 ⟨j, List.mem_range.2 h, hb⟩
theorem badB_high {b : UInt8} (h : 128 ≤ b.toNat) : badB b = false := by
  unfold badB
  rw [Bool.or_eq_false_iff]
  exact ⟨beq_false_of_ne (by omega), beq_false_of_ne (by omega)⟩
theorem get!_is (s : ByteArray) (pos : Nat) (h : pos < s.size) : s.get! pos = s[pos]'h := by
  have h' : pos < s.data.size := h
  show s.data[pos]! = s.data[pos]
  rw [getElem!_pos s.data pos h']
theorem cont_high {x : Nat} (h : (x / 64 == 2) = true) : 128 ≤ x := by
  have := of_decide_eq_true h
  have h2 : x / 64 = 2 := by simpa using h
  omega
/-- All bytes of a rune that is no ASCII are high. -/
theorem high_skip (s : ByteArray) (pos : Nat) (h : 128 ≤ (s.get! pos).toNat) (j : Nat) (h1 : pos ≤ j) (h2 : j < pos + (Utf8.decode s pos).2) : 128 ≤ (s.get! j).toNat := by
  obtain ⟨k, rfl⟩ : ∃ k, j = pos + k := ⟨j - pos, by omega⟩
  have hk : k < (Utf8.decode s pos).2 := by omega
  clear h1 h2
  have h0 : ¬ (s.get! (pos + 0)).toNat < 0x80 := by rw [Nat.add_zero]; omega
  simp only [Utf8.decode] at hk
  rw [if_neg h0] at hk
  have one : k < 1 → 128 ≤ (s.get! (pos + k)).toNat := fun hq => by
    obtain rfl : k = 0 := by omega
    rw [Nat.add_zero]; exact h
  by_cases q1 : ((s.get! (pos + 0)).toNat / 32 == 6 && (decide (pos + 1 < s.size) && (s.get! (pos + 1)).toNat / 64 == 2)) = true
  · rw [if_pos q1] at hk
    simp only [Bool.and_eq_true] at q1
    split at hk
    · have hk2 : k < 2 := hk
      by_cases k0 : k < 1
      · exact one k0
      · obtain rfl : k = 1 := by omega
        exact cont_high q1.2.2
    · exact one hk
  · rw [if_neg q1] at hk
    by_cases q2 : ((s.get! (pos + 0)).toNat / 16 == 14 && (decide (pos + 1 < s.size) && (s.get! (pos + 1)).toNat / 64 == 2) && (decide (pos + 2 < s.size) && (s.get! (pos + 2)).toNat / 64 == 2)) = true
    · rw [if_pos q2] at hk
      simp only [Bool.and_eq_true] at q2
      split at hk
      · have hk2 : k < 3 := hk
        by_cases k0 : k < 1
        · exact one k0
        · by_cases k1 : k = 1
          · subst k1; exact cont_high q2.1.2.2
          · obtain rfl : k = 2 := by omega
            exact cont_high q2.2.2
      · exact one hk
    · rw [if_neg q2] at hk
      by_cases q3 : ((s.get! (pos + 0)).toNat / 8 == 30 && (decide (pos + 1 < s.size) && (s.get! (pos + 1)).toNat / 64 == 2) && (decide (pos + 2 < s.size) && (s.get! (pos + 2)).toNat / 64 == 2) && (decide (pos + 3 < s.size) && (s.get! (pos + 3)).toNat / 64 == 2)) = true
      · rw [if_pos q3] at hk
        simp only [Bool.and_eq_true] at q3
        split at hk
        · have hk2 : k < 4 := hk
          by_cases k0 : k < 1
          · exact one k0
          · by_cases k1 : k = 1
            · subst k1; exact cont_high q3.1.1.2.2
            · by_cases k2 : k = 2
              · subst k2; exact cont_high q3.1.2.2
              · obtain rfl : k = 3 := by omega
                exact cont_high q3.2.2
        · exact one hk
      · rw [if_neg q3] at hk
        exact one hk
/-- One step of the loop over the runes: not a bad rune: clean a rune further. -/
theorem clean_step {s : ByteArray} {pos : Nat} (h : pos < s.size) (hc : Clean s pos) (h0 : (Utf8.decode s pos).1 ≠ 0) (h47 : (Utf8.decode s pos).1 ≠ 47) : Clean s (pos + (Utf8.decode s pos).2) := by
  intro j hj hjs
  by_cases hlt : j < pos
  · exact hc j hlt hjs
  · by_cases ha : (s[pos]'h).toNat < 128
    · rw [decode_ascii s pos h ha] at hj h0 h47
      obtain rfl : j = pos := by have : j < pos + 1 := hj; omega
      unfold badB
      rw [get!_is s j h, Bool.or_eq_false_iff]
      exact ⟨beq_false_of_ne h0, beq_false_of_ne h47⟩
    · exact badB_high (high_skip s pos (by rw [get!_is s pos h]; omega) j (by omega) hj)
theorem bad_rune {s : ByteArray} {pos : Nat} (h : pos < s.size) (hb : (Utf8.decode s pos).1 = 0 ∨ (Utf8.decode s pos).1 = 47) : anyBad s = true := by
  by_cases ha : (s[pos]'h).toNat < 128
  · rw [decode_ascii s pos h ha] at hb
    refine anyBad_yes h ?_
    unfold badB
    rw [get!_is s pos h]
    rcases hb with q | q
    · have q' : (s[pos]'h).toNat = 0 := q
      rw [q']; rfl
    · have q' : (s[pos]'h).toNat = 47 := q
      rw [q']; rfl
  · have := (decode_high s pos h (by omega)).1
    omega
theorem width_pos (s : ByteArray) (pos : Nat) (h : pos < s.size) : 1 ≤ (Utf8.decode s pos).2 := by
  by_cases ha : (s[pos]'h).toNat < 128
  · rw [decode_ascii s pos h ha]; exact Nat.le_refl _
  · exact (decode_high s pos h (by omega)).2
end Go.Proofs.YtgklipfeheohkaaDoor.P
