/- The law NumRows holds: texts and bytes laid down one behind the other are read as they were. No condition. -/
import Derived.Test.YtimnbcblejcmcaaNumRow
import Derived.Test.YtimnbcblejcmcaaPx2
namespace Go.Proofs.Ytimnbcblejcmcaa.Pure
open Go.RowKit Go.Proofs.Ytimnbcblejcmcaa.P Go.Proofs.Ytimnbcblejcmcaa.NumLem Go.Proofs.YtimnbcblejcmcaaW.PrintWords Go.Proofs.YtimnbcblejcmcaaW.PrintLast
theorem strOf_bytes (s : ByteArray) : strOfNums (bytesOf s) = s := by
  obtain ⟨⟨l⟩⟩ := s
  unfold strOfNums bytesOf
  simp only [List.map_map]
  have : ((fun n : Int => UInt8.ofNat n.toNat) ∘ fun b : UInt8 => (b.toNat : Int)) = id := by
    funext b
    simp
  rw [this]
  simp
def at_ (l : List ByteArray) (i : Nat) : ByteArray := rdOf ByteArray.empty l (i : Int)
def one_ (s : ByteArray) : List Int := digits (bytesOf s).length 1 ++ (bytesOf s ++ (digits (bytesOf s).length 2 ++ bytesOf s))
def rowsOf (l : List ByteArray) : Nat → Nat → List Int
  | _, 0 => []
  | j, d + 1 => one_ (at_ l j) ++ rowsOf l (j + 1) d
theorem rowsOf_snoc (l : List ByteArray) (d : Nat) : ∀ j, rowsOf l j (d + 1) = rowsOf l j d ++ one_ (at_ l (j + d)) := by
  induction d with
  | zero => intro j; simp [rowsOf]
  | succ d ih =>
    intro j
    rw [rowsOf, ih (j + 1), rowsOf, List.append_assoc, show j + 1 + d = j + (d + 1) by omega]
theorem one_len (s : ByteArray) (h : s.size ≤ 255) : (one_ s).length ≤ 513 := by
  unfold one_
  simp only [List.length_append, digits_length, bytesOf_length]
  omega
theorem one_bytes (s : ByteArray) : Bytes (one_ s) := (digits_bytes _ _).append ((bytesOf_bytes s).append ((digits_bytes _ _).append (bytesOf_bytes s)))
theorem rows_len (l : List ByteArray) (d : Nat) : ∀ j, (∀ i, j ≤ i → i < j + d → (at_ l i).size ≤ 255) → (rowsOf l j d).length ≤ 513 * d := by
  induction d with
  | zero => intro j _; simp [rowsOf]
  | succ d ih =>
    intro j h
    have h1 := one_len (at_ l j) (h j (by omega) (by omega))
    have h2 := ih (j + 1) (fun i h3 h4 => h i (by omega) (by omega))
    rw [rowsOf, List.length_append]
    omega
theorem rows_bytes (l : List ByteArray) (d : Nat) : ∀ j, Bytes (rowsOf l j d) := by
  induction d with
  | zero => intro j; exact Bytes.nil
  | succ d ih => intro j; exact (one_bytes _).append (ih _)
theorem back_loop (l : List ByteArray) (d : Nat) : ∀ (k j : Nat), j + d ≤ 20 → (∀ i, j ≤ i → i < j + d → i < l.length ∧ (at_ l i).size ≤ 255) → d < k →
    cambiumlaw01_NumRows.l1 k l true (rowsOf l j d) ((j + d : Nat) : Int) j = some true := by
  induction d with
  | zero =>
    intro k j _ _ hk
    obtain ⟨k, rfl⟩ : ∃ m, k = m + 1 := ⟨k - 1, by omega⟩
    simp only [cambiumlaw01_NumRows.l1]
    rw [if_neg (by omega)]
    simp [rowsOf]
  | succ d ih =>
    intro k j hj h hk
    obtain ⟨k, rfl⟩ : ∃ m, k = m + 1 := ⟨k - 1, by omega⟩
    obtain ⟨hjl, hs⟩ := h j (by omega) (by omega)
    have hlen := rows_len l d (j + 1) (fun i h3 h4 => (h i (by omega) (by omega)).2)
    have hb := rows_bytes l d (j + 1)
    have hbl := bytesOf_length (at_ l j)
    simp only [cambiumlaw01_NumRows.l1]
    rw [if_pos (by omega), rowsOf]
    generalize hmore : rowsOf l (j + 1) d = more at *
    have e : one_ (at_ l j) ++ more = digits (bytesOf (at_ l j)).length 1 ++ (bytesOf (at_ l j) ++ (digits (bytesOf (at_ l j)).length 2 ++ (bytesOf (at_ l j) ++ more))) := by
      unfold one_
      simp only [List.append_assoc]
    have b2 : Bytes (digits (bytesOf (at_ l j)).length 2 ++ (bytesOf (at_ l j) ++ more)) := (digits_bytes _ _).append ((bytesOf_bytes _).append hb)
    have b1 : Bytes (one_ (at_ l j) ++ more) := (one_bytes _).append hb
    have l1 := one_len (at_ l j) hs
    have t1 := take_back (bytesOf (at_ l j)) (digits (bytesOf (at_ l j)).length 2 ++ (bytesOf (at_ l j) ++ more)) 1 (by omega) (by omega) (by show ((bytesOf (at_ l j)).length : Int) < 256; omega)
    have t2 := take_back (bytesOf (at_ l j)) more 2 (by omega) (by omega) (by show ((bytesOf (at_ l j)).length : Int) < 65536; omega)
    rw [show (((1 : Nat) : Int)) = 1 from rfl] at t1
    rw [show (((2 : Nat) : Int)) = 2 from rfl] at t2
    rw [TakeText_is _ b1 (by rw [List.length_append]; omega), e, t1]
    simp only [Option.bind_some]
    rw [TakeBytes_is _ b2 (by simp only [List.length_append, digits_length]; omega), t2]
    simp only [Option.bind_some, strOf_bytes]
    have ha : rdOf ByteArray.empty l (j : Int) = at_ l j := rfl
    have hw : wrap64 ((j : Int) + 1) = ((j + 1 : Nat) : Int) := by unfold wrap64; omega
    have := ih k (j + 1) (by omega) (fun i h3 h4 => h i (by omega) (by omega)) (by omega)
    rw [show j + 1 + d = j + (d + 1) by omega] at this
    simp only [ha, if_true]
    rw [if_pos (by omega), if_pos (by omega), hw, ← hmore]
    exact this
theorem put_loop (l : List ByteArray) (d : Nat) : ∀ (k i : Nat), 20 - i = d → i ≤ 20 → (∀ m, m < i → m < l.length ∧ (at_ l m).size ≤ 255) → 2 * d + 40 ≤ k →
    cambiumlaw01_NumRows.l0 k l true (rowsOf l 0 i) i i = some true := by
  have fin : ∀ (k i : Nat), i ≤ 20 → (∀ m, m < i → m < l.length ∧ (at_ l m).size ≤ 255) → 22 ≤ k → cambiumlaw01_NumRows.j2 k l true (rowsOf l 0 i) i = some true := by
    intro k i hi h hk
    obtain ⟨k, rfl⟩ : ∃ m, k = m + 1 := ⟨k - 1, by omega⟩
    simp only [cambiumlaw01_NumRows.j2]
    have := back_loop l i k 0 (by omega) (fun m _ hm => h m (by omega)) (by omega)
    rw [Nat.zero_add] at this
    exact this
  induction d with
  | zero =>
    intro k i hd hi h hk
    obtain ⟨k, rfl⟩ : ∃ m, k = m + 2 := ⟨k - 2, by omega⟩
    simp only [cambiumlaw01_NumRows.l0, cambiumlaw01_NumRows.j1]
    have h20 : decide ((i : Int) < 20) = false := by simp; omega
    simp only [h20, Bool.false_eq_true, if_false]
    rw [fin k i hi h (by omega)]
    simp
  | succ d ih =>
    intro k i hd hi h hk
    obtain ⟨k, rfl⟩ : ∃ m, k = m + 2 := ⟨k - 2, by omega⟩
    simp only [cambiumlaw01_NumRows.l0, cambiumlaw01_NumRows.j1]
    by_cases hx : (i : Int) < (l.length : Int)
    case neg =>
      rw [if_neg hx, if_neg (show ¬ (false = true) by decide), fin k i hi h (by omega)]
    have h20 : decide ((i : Int) < 20) = true := by simp; omega
    have ha : rdOf ByteArray.empty l (i : Int) = at_ l i := rfl
    rw [if_pos hx, h20, if_pos rfl, if_pos (by omega), if_pos hx, ha]
    by_cases hs : ((at_ l i).size : Int) > 255
    · rw [if_pos hs, fin k i hi h (by omega)]
    rw [if_neg hs]
    have hbl := bytesOf_length (at_ l i)
    have hlen := rows_len l i 0 (fun m _ hm => (h m (by omega)).2)
    have p1 := putR_digits (rowsOf l 0 i) (bytesOf (at_ l i)).length 1 (by omega) (by omega) (by show ((bytesOf (at_ l i)).length : Int) < 256; omega)
    rw [show (((1 : Nat) : Int)) = 1 from rfl] at p1
    have p2 := putR_digits (rowsOf l 0 i ++ digits (bytesOf (at_ l i)).length 1 ++ bytesOf (at_ l i)) (bytesOf (at_ l i)).length 2 (by omega) (by omega) (by show ((bytesOf (at_ l i)).length : Int) < 65536; omega)
    rw [show (((2 : Nat) : Int)) = 2 from rfl] at p2
    have hc : bytes_conv.f (at_ l i) = some (bytesOf (at_ l i)) := by unfold bytes_conv.f; rw [if_pos (by omega)]
    have d1 := digits_length 1 (bytesOf (at_ l i)).length
    rw [PutText_is _ _ (by omega)]
    unfold putRowR
    rw [if_neg (by omega), p1]
    simp only [Option.bind_some, hc]
    rw [PutBytes_is _ _ (by simp only [List.length_append]; omega)]
    unfold putRowR
    rw [if_neg (by omega), p2]
    simp only [Option.bind_some, if_true]
    rw [w64_small (by omega) (by omega)]
    have e : rowsOf l 0 i ++ digits (bytesOf (at_ l i)).length 1 ++ bytesOf (at_ l i) ++ digits (bytesOf (at_ l i)).length 2 ++ bytesOf (at_ l i) = rowsOf l 0 (i + 1) := by
      rw [rowsOf_snoc, Nat.zero_add]
      unfold one_
      simp only [List.append_assoc]
    rw [e]
    exact ih k (i + 1) (by omega) (by omega) (fun m hm => by
      by_cases hm2 : m < i
      · exact h m hm2
      · obtain rfl : m = i := by omega
        exact ⟨by omega, by omega⟩) (by omega)
theorem NumRows : cambiumlaw01_NumRows.Pure := by
  intro l _
  refine ⟨100, ?_⟩
  unfold cambiumlaw01_NumRows.f cambiumlaw01_shown.f
  rw [Option.bind_some]
  exact put_loop l 20 100 0 (by omega) (by omega) (fun m hm => by omega) (by omega)
end Go.Proofs.Ytimnbcblejcmcaa.Pure
