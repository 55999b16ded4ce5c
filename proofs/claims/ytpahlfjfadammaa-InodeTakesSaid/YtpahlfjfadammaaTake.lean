import Derived.Test.YtpahlfjfadammaaPut
import Derived.Test.YtpahlfjfadammaaPx4
import Derived.Test.YtpahlfjfadammaaPx5
/-! What taking inodes answers. -/
namespace Go.Proofs.Ytpahlfjfadammaa.NumLem
open Go.RowKit Go.Proofs.Ytpahlfjfadammaa.P Go.Proofs.YtpahlfjfadammaaW.PrintWords Go.Proofs.YtpahlfjfadammaaW.PrintLast
set_option linter.unusedVariables false
set_option linter.unusedSimpArgs false
theorem digits_val (l : List Int) (h : Bytes l) : digits (val l) l.length = l := by
  induction l using snoc_ind with
  | h0 => rfl
  | h1 l c ih =>
    have hc := h c (by simp)
    have hl : Bytes l := fun x hx => h x (by simp [hx])
    rw [val_snoc, List.length_append, List.length_singleton, digits, show (256 * val l + c) / 256 = val l by omega, show (256 * val l + c) % 256 = c by omega, ih hl]
theorem takeR_ok (l : List Int) (n : Nat) (h1 : 1 ≤ n) (h2 : n ≤ 7) (hl : n ≤ l.length) : takeR l n = (val (l.take n), l.drop n, 0) := by
  unfold takeR
  rw [if_neg (by omega), if_neg (by omega), Int.toNat_natCast]
theorem takeR_short (l : List Int) (n : Nat) (h1 : 1 ≤ n) (h2 : n ≤ 7) (hl : l.length < n) : takeR l n = (0, [], 2) := by
  unfold takeR
  rw [if_neg (by omega), if_pos (by omega)]
theorem takeR_bytes (l : List Int) (n : Int) (h : Bytes l) : Bytes (takeR l n).2.1 := by
  unfold takeR
  split
  · exact Bytes.nil
  · split
    · exact Bytes.nil
    · exact h.drop _
def takesR : List Int → List Int → List Int → List Int × Bool
  | acc, l, [] => (acc, ((l.length : Nat) : Int) == 0)
  | acc, l, n :: ns => if (takeR l n).2.2 = 0 then takesR (acc ++ [(takeR l n).1]) (takeR l n).2.1 ns else ([], false)
theorem take_loop (ns : List Int) (d : Nat) : ∀ (k : Nat) (l acc : List Int) (i : Nat), i + d = ns.length → d < k → ns.length ≤ 10 → acc.length ≤ i → Bytes l → l.length ≤ 1000 →
    inode_take.l0 k l acc ns (ns.length : Int) i = some (takesR acc l (ns.drop i)) := by
  induction d with
  | zero =>
    intro k l acc i hi hk hn ha hb hl
    obtain ⟨k, rfl⟩ : ∃ m, k = m + 1 := ⟨k - 1, by omega⟩
    simp only [inode_take.l0]
    rw [if_neg (by omega), List.drop_of_length_le (by omega)]
    rfl
  | succ d ih =>
    intro k l acc i hi hk hn ha hb hl
    obtain ⟨k, rfl⟩ : ∃ m, k = m + 1 := ⟨k - 1, by omega⟩
    have hil : i < ns.length := by omega
    have hr : rd ns (i : Int) = ns[i] := by
      unfold rd
      rw [Int.toNat_natCast, List.getD_eq_getElem?_getD, List.getElem?_eq_getElem hil]
      rfl
    have h1 := takeR_len l ns[i]
    simp only [inode_take.l0]
    rw [if_pos (by omega), if_pos (by omega), if_pos (by omega), hr, Take_is _ _ hb (by omega), Option.bind_some, List.drop_eq_getElem_cons hil]
    unfold takesR
    have hbq := takeR_bytes l ns[i] hb
    have hw : wrap64 ((i : Int) + 1) = ((i + 1 : Nat) : Int) := w64_small (by omega) (by omega)
    have hlim : acc.length < 17592186044416 := Nat.lt_of_le_of_lt (Nat.le_trans ha (Nat.le_trans (Nat.le_of_lt hil) hn)) (by decide)
    clear hr
    generalize takeR l ns[i] = q at *
    by_cases he : q.2.2 = 0
    · rw [if_pos he, if_pos he, if_pos hlim, hw]
      exact ih k _ _ (i + 1) (by omega) (by omega) hn (by rw [List.length_append, List.length_singleton]; omega) hbq (by omega)
    · rw [if_neg he, if_neg he]
theorem takes_is (k : Nat) (l ns : List Int) (hk : ns.length < k) (hn : ns.length ≤ 10) (hb : Bytes l) (hl : l.length ≤ 1000) : inode_take.f k l ns = some (takesR [] l ns) := by
  unfold inode_take.f
  have := take_loop ns ns.length k l [] 0 (by omega) hk hn (by simp) hb hl
  rw [List.drop_zero] at this
  exact this
theorem takes3_yes (l : List Int) (h : l.length = 7) : takesR [] l [1, 2, 4] = ([val (l.take 1), val ((l.drop 1).take 2), val ((l.drop 3).take 4)], true) := by
  have e1 := takeR_ok l 1 (by omega) (by omega) (by omega)
  have e2 := takeR_ok (l.drop 1) 2 (by omega) (by omega) (by rw [List.length_drop]; omega)
  have e3 := takeR_ok (l.drop 3) 4 (by omega) (by omega) (by rw [List.length_drop]; omega)
  rw [show (((1 : Nat) : Int)) = 1 from rfl] at e1
  rw [show (((2 : Nat) : Int)) = 2 from rfl, List.drop_drop] at e2
  rw [show (((4 : Nat) : Int)) = 4 from rfl, List.drop_drop] at e3
  simp only [takesR, e1, e2, e3, if_true, List.nil_append, List.cons_append]
  have : (l.drop 7).length = 0 := by rw [List.length_drop]; omega
  simp [this]
theorem takes3_no (l : List Int) (h : l.length ≠ 7) : (takesR [] l [1, 2, 4]).2 = false := by
  by_cases h1 : l.length < 1
  · have e1 := takeR_short l 1 (by omega) (by omega) h1
    rw [show (((1 : Nat) : Int)) = 1 from rfl] at e1
    simp [takesR, e1]
  have e1 := takeR_ok l 1 (by omega) (by omega) (by omega)
  rw [show (((1 : Nat) : Int)) = 1 from rfl] at e1
  by_cases h2 : l.length < 3
  · have e2 := takeR_short (l.drop 1) 2 (by omega) (by omega) (by rw [List.length_drop]; omega)
    rw [show (((2 : Nat) : Int)) = 2 from rfl] at e2
    simp only [takesR, e1, e2, if_true]
    rfl
  have e2 := takeR_ok (l.drop 1) 2 (by omega) (by omega) (by rw [List.length_drop]; omega)
  rw [show (((2 : Nat) : Int)) = 2 from rfl, List.drop_drop] at e2
  by_cases h3 : l.length < 7
  · have e3 := takeR_short (l.drop 3) 4 (by omega) (by omega) (by rw [List.length_drop]; omega)
    rw [show (((4 : Nat) : Int)) = 4 from rfl] at e3
    simp only [takesR, e1, e2, e3, if_true]
    rfl
  have e3 := takeR_ok (l.drop 3) 4 (by omega) (by omega) (by rw [List.length_drop]; omega)
  rw [show (((4 : Nat) : Int)) = 4 from rfl, List.drop_drop] at e3
  simp only [takesR, e1, e2, e3, if_true]
  have : (l.drop 7).length ≠ 0 := by rw [List.length_drop]; omega
  simpa using this
/-- What Take of an inode answers. -/
def inodeT (l : List Int) : Int × Int × Int × Int :=
  if l.length = 7 ∧ inodeOk (val (l.take 1)) (val ((l.drop 1).take 2)) (val ((l.drop 3).take 4)) then (val (l.take 1), val ((l.drop 1).take 2), val ((l.drop 3).take 4), 0) else (0, 0, 0, 3)
theorem Take_inode (k : Nat) (l : List Int) (hk : 4 ≤ k) (hb : Bytes l) (hl : l.length ≤ 1000) : inode_Take.f k l = some (inodeT l) := by
  unfold inode_Take.f inodeT
  rw [takes_is k l [1, 2, 4] (by simp; omega) (by simp) hb hl, Option.bind_some]
  by_cases h : l.length = 7
  · rw [takes3_yes l h]
    have r0 : ∀ x y z : Int, rd [x, y, z] 0 = x := fun _ _ _ => rfl
    have r1 : ∀ x y z : Int, rd [x, y, z] 1 = y := fun _ _ _ => rfl
    have r2 : ∀ x y z : Int, rd [x, y, z] 2 = z := fun _ _ _ => rfl
    have hl3 : ∀ x y z : Int, (([x, y, z] : List Int).length : Int) = 3 := fun _ _ _ => rfl
    simp only [if_true, r0, r1, r2, hl3, Put_inode k _ _ _ hk, Option.bind_some]
    rw [if_pos (by omega), if_pos (by omega), if_pos (by omega)]
    unfold inodeR
    by_cases ho : inodeOk (val (l.take 1)) (val ((l.drop 1).take 2)) (val ((l.drop 3).take 4))
    · have e : (l.length = 7 ∧ inodeOk (val (l.take 1)) (val ((l.drop 1).take 2)) (val ((l.drop 3).take 4))) := ⟨h, ho⟩
      simp only [if_pos ho, if_pos e, if_true]
    · have e : ¬ (l.length = 7 ∧ inodeOk (val (l.take 1)) (val ((l.drop 1).take 2)) (val ((l.drop 3).take 4))) := fun q => ho q.2
      simp only [if_neg ho, if_neg e]
      rfl
  · rw [takes3_no l h, if_neg (by decide), if_neg (fun q => h q.1)]
theorem inode_form (l : List Int) (hb : Bytes l) (h : l.length = 7) : inodeRow (val (l.take 1)) (val ((l.drop 1).take 2)) (val ((l.drop 3).take 4)) = l := by
  have d1 := digits_val (l.take 1) (hb.take 1)
  have d2 := digits_val ((l.drop 1).take 2) ((hb.drop 1).take 2)
  have d3 := digits_val ((l.drop 3).take 4) ((hb.drop 3).take 4)
  rw [show (l.take 1).length = 1 by rw [List.length_take]; omega] at d1
  rw [show ((l.drop 1).take 2).length = 2 by rw [List.length_take, List.length_drop]; omega] at d2
  rw [show ((l.drop 3).take 4).length = 4 by rw [List.length_take, List.length_drop]; omega] at d3
  unfold inodeRow
  rw [d1, d2, d3]
  have e3 : (l.drop 3).take 4 = l.drop 3 := List.take_of_length_le (by rw [List.length_drop]; omega)
  have e2 : (l.drop 1).take 2 ++ l.drop 3 = l.drop 1 := by
    have := List.take_append_drop 2 (l.drop 1)
    rw [List.drop_drop] at this
    exact this
  rw [e3, e2, List.take_append_drop]
end Go.Proofs.Ytpahlfjfadammaa.NumLem
