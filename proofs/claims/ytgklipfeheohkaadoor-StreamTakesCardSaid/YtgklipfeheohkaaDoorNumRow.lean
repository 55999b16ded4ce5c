import Derived.Test.YtgklipfeheohkaaDoorNumLem
import Derived.Test.YtgklipfeheohkaaDoorPx2
import Derived.Test.YtgklipfeheohkaaDoorPx9
namespace Go.Proofs.YtgklipfeheohkaaDoor.NumLem
open Go.RowKit Go.Proofs.YtgklipfeheohkaaDoor.P Go.Proofs.YtgklipfeheohkaaDoorW.PrintWords Go.Proofs.YtgklipfeheohkaaDoorW.PrintLast
set_option linter.unusedVariables false
set_option linter.unusedSimpArgs false
theorem putR_len (l : List Int) (x n : Int) : (putR l x n).length ≤ l.length + 8 := by
  unfold putR
  split
  · simp
  · rw [List.length_append, digits_length]; omega
/-- What put answers. -/
def putRowR (l x : List Int) (n most : Int) : List Int × Int := if (x.length : Int) > most then ([], 7) else (putR l x.length n ++ x, 0)
theorem takeR_val (l : List Int) (n : Int) (h : Bytes l) : 0 ≤ (takeR l n).1 := by
  unfold takeR
  split
  · exact Int.le_refl 0
  · split
    · exact Int.le_refl 0
    · exact (val_range _ (h.take _)).1
/-- What take answers. -/
def takeRowR (l : List Int) (n : Int) : List Int × List Int × Int :=
  if (takeR l n).2.2 ≠ 0 ∨ ((takeR l n).2.1.length : Int) < (takeR l n).1 then ([], [], 2) else ((takeR l n).2.1.take (takeR l n).1.toNat, (takeR l n).2.1.drop (takeR l n).1.toNat, 0)
theorem take_is (l : List Int) (n : Int) (h : Bytes l) (hl : l.length ≤ 140737488355328) : num_take.f l n = some (takeRowR l n) := by
  unfold num_take.f takeRowR
  rw [Take_is _ _ h hl, Option.bind_some]
  by_cases h1 : (takeR l n).2.2 ≠ 0 ∨ ((takeR l n).2.1.length : Int) < (takeR l n).1
  · rw [if_pos h1, if_pos h1]
  · rw [if_neg h1, if_neg h1, if_pos (takeR_val l n h)]
theorem takeR_len (l : List Int) (n : Int) : (takeR l n).2.1.length ≤ l.length := by
  unfold takeR
  split
  · simp
  · split
    · simp
    · simp only [List.length_drop]; omega
theorem takeRowR_len (l : List Int) (n : Int) : (takeRowR l n).1.length ≤ l.length := by
  have := takeR_len l n
  unfold takeRowR
  split
  · simp
  · simp only [List.length_take]; omega
theorem TakeText_is (l : List Int) (h : Bytes l) (hl : l.length ≤ 140737488355328) : num_TakeText.f l = some (strOfNums (takeRowR l 1).1, (takeRowR l 1).2.1, (takeRowR l 1).2.2) := by
  unfold num_TakeText.f
  rw [take_is _ _ h hl]
  rfl
theorem takeRowR_err (l : List Int) (n : Int) (h : (takeRowR l n).2.2 ≠ 0) : takeRowR l n = ([], [], 2) := by
  unfold takeRowR at *
  split
  · rfl
  · rename_i h1; rw [if_neg h1] at h; exact absurd rfl h
theorem putR_digits (l : List Int) (m n : Nat) (h1 : 1 ≤ n) (h2 : n ≤ 7) (hm : (m : Int) < 256 ^ n) : putR l m n = l ++ digits m n := by
  have h3 : (m : Int) < 72057594037927936 := Int.lt_of_lt_of_le hm (pow256 (b := 7) h2)
  unfold putR
  rw [if_neg (by omega), u64_of (by omega) (by omega), Int.toNat_natCast]
theorem val_digits_small (m n : Nat) (hm : (m : Int) < 256 ^ n) : val (digits (m : Int) n) = (m : Int) := by rw [val_digits, Int.emod_eq_of_lt (by omega) hm]
/-- A row that is laid down is read as it was. -/
theorem takeR_digits (m n : Nat) (r : List Int) (h1 : 1 ≤ n) (h2 : n ≤ 7) (hm : (m : Int) < 256 ^ n) : takeR (digits (m : Int) n ++ r) (n : Int) = ((m : Int), r, 0) := by
  have hd := digits_length n m
  unfold takeR
  rw [if_neg (by omega), if_neg (by rw [List.length_append]; omega), Int.toNat_natCast, List.take_append_of_le_length (by omega), List.drop_append_of_le_length (by omega), List.take_of_length_le (by omega), List.drop_of_length_le (by omega), val_digits_small m n hm]
  simp
theorem take_back (x more : List Int) (n : Nat) (h1 : 1 ≤ n) (h2 : n ≤ 7) (hm : (x.length : Int) < 256 ^ n) : takeRowR (digits (x.length : Int) n ++ (x ++ more)) (n : Int) = (x, more, 0) := by
  unfold takeRowR
  rw [takeR_digits _ _ _ h1 h2 hm, if_neg (by simp only [List.length_append]; omega), Int.toNat_natCast]
  simp
theorem bytesOf_bytes (s : ByteArray) : Bytes (bytesOf s) := by
  intro x hx
  unfold bytesOf at hx
  obtain ⟨b, _, rfl⟩ := List.mem_map.1 hx
  have := b.toNat_lt
  omega
end Go.Proofs.YtgklipfeheohkaaDoor.NumLem
