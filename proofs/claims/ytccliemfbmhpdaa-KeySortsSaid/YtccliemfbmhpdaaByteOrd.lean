import Derived.Test.YtccliemfbmhpdaaNumLem
import Derived.Lib.Bytes
/-! The order of two rows of bytes of one length is the order of their numbers. -/
namespace Go.Proofs.Ytccliemfbmhpdaa.NumLem
open Go.RowKit Go.Proofs.Ytccliemfbmhpdaa.P Go.Proofs.YtccliemfbmhpdaaW.PrintWords Go.Proofs.YtccliemfbmhpdaaW.PrintLast
set_option linter.unusedVariables false
set_option linter.unusedSimpArgs false
theorem val_append (l m : List Int) : val (l ++ m) = val l * 256 ^ m.length + val m := by
  induction m using snoc_ind with
  | h0 => simp [val]
  | h1 m c ih =>
    rw [← List.append_assoc, val_snoc, ih, val_snoc, List.length_append, List.length_singleton, Int.pow_succ, Int.mul_add, Int.mul_comm (256 ^ m.length) 256, ← Int.mul_assoc, ← Int.mul_assoc, Int.mul_comm 256 (val l)]
    omega
theorem val_cons (c : Int) (l : List Int) : val (c :: l) = c * 256 ^ l.length + val l := by
  have := val_append [c] l
  rw [List.singleton_append] at this
  have e : val [c] = c := by simp [val, step]
  rw [this, e]
def b8 (x : Int) : UInt8 := UInt8.ofNat x.toNat
theorem b8_lt (x y : Int) (hx : 0 ≤ x ∧ x < 256) (hy : 0 ≤ y ∧ y < 256) : b8 x < b8 y ↔ x < y := by
  unfold b8
  rw [UInt8.lt_iff_toNat_lt, UInt8.toNat_ofNat', UInt8.toNat_ofNat']
  omega
theorem b8_eq (x y : Int) (hx : 0 ≤ x ∧ x < 256) (hy : 0 ≤ y ∧ y < 256) : b8 x = b8 y ↔ x = y := by
  unfold b8
  rw [← UInt8.toNat_inj, UInt8.toNat_ofNat', UInt8.toNat_ofNat']
  omega
theorem order (l : List Int) : ∀ m : List Int, Bytes l → Bytes m → l.length = m.length → (Op.bytesLess (l.map b8) (m.map b8) = decide (val l < val m)) ∧ (l.map b8 = m.map b8 ↔ val l = val m) := by
  induction l with
  | nil =>
    intro m _ _ h
    obtain rfl : m = [] := List.eq_nil_of_length_eq_zero h.symm
    exact ⟨rfl, by simp⟩
  | cons a l ih =>
    intro m hl hm h
    cases m with
    | nil => simp at h
    | cons b m =>
      have hlen : l.length = m.length := by simpa using h
      have bl : Bytes l := fun x hx => hl x (List.mem_cons_of_mem _ hx)
      have bm : Bytes m := fun x hx => hm x (List.mem_cons_of_mem _ hx)
      have ha := hl a (List.mem_cons_self ..)
      have hb := hm b (List.mem_cons_self ..)
      obtain ⟨i1, i2⟩ := ih m bl bm hlen
      have vl := val_range l bl
      have vm := val_range m bm
      rw [val_cons, val_cons, hlen]
      rw [hlen] at vl
      generalize (256 : Int) ^ m.length = p at *
      simp only [List.map_cons, Op.bytesLess, i1]
      have e1 : ∀ x y : Int, x < y → x * p + p ≤ y * p := fun x y hxy => by
        have := Int.mul_le_mul_of_nonneg_right (show x + 1 ≤ y by omega) (show 0 ≤ p by omega)
        rw [Int.add_mul, Int.one_mul] at this
        exact this
      rcases Int.lt_trichotomy a b with h1 | h1 | h1
      · have := e1 a b h1
        have q1 : b8 a < b8 b := (b8_lt a b ha hb).2 h1
        have q2 : ¬ b8 a = b8 b := fun h => by have := (b8_eq a b ha hb).1 h; omega
        refine ⟨?_, ?_⟩
        · simp only [q1, decide_true, Bool.true_or]
          exact (decide_eq_true (by omega)).symm
        · simp only [List.cons.injEq, q2, false_and, false_iff]; omega
      · subst h1
        have q1 : ¬ b8 a < b8 a := fun h => by have := (b8_lt a a ha hb).1 h; omega
        refine ⟨?_, ?_⟩
        · simp only [q1, decide_false, Bool.false_or, beq_self_eq_true, Bool.true_and]
          rw [decide_eq_decide]; omega
        · simp only [List.cons.injEq, true_and, i2]; omega
      · have := e1 b a h1
        have q1 : ¬ b8 a < b8 b := fun h => by have := (b8_lt a b ha hb).1 h; omega
        have q2 : ¬ b8 a = b8 b := fun h => by have := (b8_eq a b ha hb).1 h; omega
        refine ⟨?_, ?_⟩
        · have q3 : (b8 a == b8 b) = false := by simpa using q2
          simp only [q1, q3, decide_false, Bool.false_or, Bool.false_and]
          exact (decide_eq_false (by omega)).symm
        · simp only [List.cons.injEq, q2, false_and, false_iff]; omega
theorem strOf (l : List Int) : (strOfNums l).toList = l.map b8 := by
  rw [Lib.strOfNums_toList]
  rfl
end Go.Proofs.Ytccliemfbmhpdaa.NumLem
