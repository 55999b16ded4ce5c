import Derived.Test.YtcjnknpbikfimaaNodeA
import Derived.Test.YtcjnknpbikfimaaPx16
/-! Keys that may be, and rise; whether a node may be. -/
namespace Go.Proofs.Ytcjnknpbikfimaa.NodeLem
open Go.RowKit Go.Proofs.Ytcjnknpbikfimaa.P Go.Proofs.YtcjnknpbikfimaaW.PrintWords Go.Proofs.YtcjnknpbikfimaaW.PrintLast
set_option linter.unusedVariables false
set_option linter.unusedSimpArgs false
theorem refMay_k (a : S35) : cambiumref05_May.f a.f0 a.f1 a.f2 = some (mayK a) := by
  obtain ⟨a0, a1, a2⟩ := a
  unfold cambiumref05_May.f mayK
  by_cases h0 : a0 ≥ 0 <;> by_cases h1 : a1 ≥ 0 <;> by_cases h2 : a2 ≥ 0 <;> by_cases h3 : a0 ≤ 2147483647 <;> by_cases h4 : a1 ≤ 255 <;> by_cases h5 : a2 ≤ 2147483647 <;> simp [h0, h1, h2, h3, h4, h5] <;> omega
theorem refLess_k (a b : S35) : cambiumref05_Less.f a.f0 a.f1 a.f2 b.f0 b.f1 b.f2 = some (lessK a b) := by
  obtain ⟨a0, a1, a2⟩ := a
  obtain ⟨b0, b1, b2⟩ := b
  unfold cambiumref05_Less.f lessK
  by_cases h0 : a0 = b0
  · subst h0
    by_cases h1 : a1 = b1
    · subst h1; simp
    · simp [h1]
  · simp [h0]
theorem rises35_loop (l : List S35) (hl : l.length ≤ 1000) (d : Nat) : ∀ k i, i + d = l.length → d + 5 ≤ k → cambiumref06_may.l0 k l (i : Int) = some (allF (okAt (key35 l)) i d) := by
  induction d with
  | zero =>
    intro k i hi hk
    obtain ⟨k, rfl⟩ : ∃ m, k = m + 1 := ⟨k - 1, by omega⟩
    simp only [cambiumref06_may.l0]
    rw [if_neg (by omega)]
    rfl
  | succ d ih =>
    intro k i hi hk
    obtain ⟨k, rfl⟩ : ∃ m, k = m + 1 := ⟨k - 1, by omega⟩
    simp only [cambiumref06_may.l0]
    rw [if_pos (by omega), if_pos (by omega), rd35, refMay_k, Option.bind_some, inc64 i (by omega), ih k (i + 1) (by omega) (by omega), allF]
    cases i with
    | zero =>
      rw [okAt_zero]
      rw [show l.getD 0 z35 = key35 l 0 from rfl]
      cases mayK (key35 l 0) with
      | false => rfl
      | true => simp
    | succ i =>
      rw [dec64 i (by omega), rd35, okAt_succ, refLess_k]
      rw [show l.getD (i + 1) z35 = key35 l (i + 1) from rfl, show l.getD i z35 = key35 l i from rfl]
      cases mayK (key35 l (i + 1)) with
      | false => simp
      | true =>
        rw [if_pos rfl, if_pos (by omega), if_pos (by omega), if_pos (by omega), Option.bind_some]
        cases lessK (key35 l i) (key35 l (i + 1)) with
        | false => simp
        | true => simp
theorem rises35_is (k : Nat) (l : List S35) (hl : l.length ≤ 1000) (hk : l.length + 5 ≤ k) : cambiumref06_may.f k l = some (risesK l) := by
  unfold cambiumref06_may.f risesK
  have h := rises35_loop l hl l.length k 0 (by omega) hk
  rw [show ((0 : Nat) : Int) = 0 from rfl] at h
  exact h
theorem Keys_loop1 (lv : Int) (l : List S52) (m : List S57) (hm : m.length ≤ 1000) (acc : List S35) (ha : acc.length ≤ 1000) (d : Nat) : ∀ k i, i + d = m.length → d < k → cambiumref06_Keys.l1 k (acc ++ (m.take i).map (·.f0)) (i : Int) lv l m = some (acc ++ m.map (·.f0)) := by
  induction d with
  | zero =>
    intro k i hi hk
    obtain ⟨k, rfl⟩ : ∃ q, k = q + 1 := ⟨k - 1, by omega⟩
    simp only [cambiumref06_Keys.l1]
    rw [if_neg (by omega), List.take_of_length_le (by omega)]
  | succ d ih =>
    intro k i hi hk
    obtain ⟨k, rfl⟩ : ∃ q, k = q + 1 := ⟨k - 1, by omega⟩
    simp only [cambiumref06_Keys.l1]
    rw [if_pos (by omega), if_pos (by omega), if_pos (by simp only [List.length_append, List.length_map, List.length_take]; omega), rd57, inc64 i (by omega), eta35, List.append_assoc]
    have := ih k (i + 1) (by omega) (by omega)
    rw [take_getD m i z57 (by omega), List.map_append] at this
    exact this
theorem Keys_loop0 (lv : Int) (l : List S52) (m : List S57) (hl : l.length ≤ 1000) (hm : m.length ≤ 1000) (d : Nat) : ∀ k i, i + d = l.length → d + m.length + 1 < k → cambiumref06_Keys.l0 k ((l.take i).map (·.f0)) (i : Int) lv l m = some (keysR l m) := by
  induction d with
  | zero =>
    intro k i hi hk
    obtain ⟨k, rfl⟩ : ∃ q, k = q + 1 := ⟨k - 1, by omega⟩
    simp only [cambiumref06_Keys.l0]
    rw [if_neg (by omega), List.take_of_length_le (by omega)]
    have := Keys_loop1 lv l m hm (l.map (·.f0)) (by rw [List.length_map]; exact hl) m.length k 0 (by omega) (by omega)
    rw [List.take_zero, List.map_nil, List.append_nil] at this
    exact this
  | succ d ih =>
    intro k i hi hk
    obtain ⟨k, rfl⟩ : ∃ q, k = q + 1 := ⟨k - 1, by omega⟩
    simp only [cambiumref06_Keys.l0]
    rw [if_pos (by omega), if_pos (by omega), if_pos (by simp only [List.length_map, List.length_take]; omega), rd52, inc64 i (by omega), eta35]
    have := ih k (i + 1) (by omega) (by omega)
    rw [take_getD l i z52 (by omega), List.map_append] at this
    exact this
theorem Keys_is (k : Nat) (lv : Int) (l : List S52) (m : List S57) (hl : l.length ≤ 1000) (hm : m.length ≤ 1000) (hk : l.length + m.length + 1 < k) : cambiumref06_Keys.f k lv l m = some (keysR l m) := by
  unfold cambiumref06_Keys.f
  exact Keys_loop0 lv l m hl hm l.length k 0 (by omega) hk
theorem refMay_loop0 (t : Bool) (lv : Int) (l : List S52) (m : List S57) (hl : l.length ≤ 1000) (d : Nat) : ∀ k i, i + d = l.length → d < k → cambiumref06_May.l0 k t (i : Int) lv l m = some (allF (fun j => decide ((l.getD j z52).f1.length ≤ 28)) i d && (decide (m.length = 0) && (decide (1 ≤ l.length ∧ l.length ≤ 6) && t))) := by
  induction d with
  | zero =>
    intro k i hi hk
    obtain ⟨k, rfl⟩ : ∃ q, k = q + 1 := ⟨k - 1, by omega⟩
    simp only [cambiumref06_May.l0]
    rw [if_neg (by omega), allF, Bool.true_and]
    cases t with
    | false => simp
    | true =>
      by_cases h1 : m.length = 0 <;> by_cases h2 : 1 ≤ l.length <;> by_cases h3 : l.length ≤ 6 <;> simp [h1, h2, h3] <;> first | omega | (rw [if_pos (by omega), decide_eq_true (by omega)])
  | succ d ih =>
    intro k i hi hk
    obtain ⟨k, rfl⟩ : ∃ q, k = q + 1 := ⟨k - 1, by omega⟩
    simp only [cambiumref06_May.l0]
    rw [if_pos (by omega), if_pos (by omega), rd52, inc64 i (by omega), allF]
    by_cases h : (l.getD i z52).f1.length ≤ 28
    · rw [if_neg (by omega), ih k (i + 1) (by omega) (by omega), decide_eq_true h, Bool.true_and]
    · rw [if_pos (by omega), decide_eq_false h, Bool.false_and, Bool.false_and]
theorem refMay_loop1 (t : Bool) (lv : Int) (l : List S52) (m : List S57) (hm : m.length ≤ 1000) (d : Nat) : ∀ k i, i + d = m.length → d < k → cambiumref06_May.l1 k t (i : Int) lv l m = some (allF (fun j => decide (1 ≤ (m.getD j z57).f1 ∧ (m.getD j z57).f1 ≤ 2047)) i d && (decide (1 ≤ lv ∧ lv ≤ 7) && (decide (l.length = 0) && (decide (2 ≤ m.length ∧ m.length ≤ 12) && t)))) := by
  induction d with
  | zero =>
    intro k i hi hk
    obtain ⟨k, rfl⟩ : ∃ q, k = q + 1 := ⟨k - 1, by omega⟩
    simp only [cambiumref06_May.l1]
    rw [if_neg (by omega), allF, Bool.true_and]
    cases t with
    | false => simp
    | true =>
      by_cases h0 : lv ≥ 1 <;> by_cases h00 : lv < 8 <;> by_cases h1 : l.length = 0 <;> by_cases h2 : 2 ≤ m.length <;> by_cases h3 : m.length ≤ 12 <;> simp [h0, h00, h1, h2, h3] <;> first | omega | (rw [if_pos (by omega), decide_eq_true (by omega)]; first | done | rw [decide_eq_true (by omega)]) | (intros; omega)
  | succ d ih =>
    intro k i hi hk
    obtain ⟨k, rfl⟩ : ∃ q, k = q + 1 := ⟨k - 1, by omega⟩
    simp only [cambiumref06_May.l1]
    rw [if_pos (by omega), if_pos (by omega), rd57, inc64 i (by omega), allF]
    by_cases h : 1 ≤ (m.getD i z57).f1 ∧ (m.getD i z57).f1 ≤ 2047
    · rw [if_neg (by omega), if_neg (by omega), ih k (i + 1) (by omega) (by omega), decide_eq_true h, Bool.true_and]
    · rw [decide_eq_false h, Bool.false_and, Bool.false_and]
      by_cases h1 : (m.getD i z57).f1 < 1
      · rw [if_pos h1]
      · rw [if_neg h1, if_pos (by omega)]
theorem refMay_is (k : Nat) (lv : Int) (l : List S52) (m : List S57) (hl : l.length ≤ 500) (hm : m.length ≤ 500) (hk : 2 * (l.length + m.length) + 6 ≤ k) : cambiumref06_May.f k lv l m = some (mayR lv l m) := by
  unfold cambiumref06_May.f mayR
  have hlen : (keysR l m).length = l.length + m.length := by unfold keysR; simp
  rw [Keys_is k lv l m (by omega) (by omega) (by omega), Option.bind_some, rises35_is k _ (by omega) (by omega), Option.bind_some]
  by_cases h : lv = 0
  · rw [if_pos h, if_pos h]
    refine (refMay_loop0 _ lv l m (by omega) l.length k 0 (by omega) (by omega)).trans ?_
    by_cases h1 : m.length = 0
    · rw [show keysR l m = l.map (·.f0) from by unfold keysR; rw [List.eq_nil_of_length_eq_zero h1]; simp]
    · rw [decide_eq_false h1]; simp
  · rw [if_neg h, if_neg h]
    refine (refMay_loop1 _ lv l m (by omega) m.length k 0 (by omega) (by omega)).trans ?_
    by_cases h1 : l.length = 0
    · rw [show keysR l m = m.map (·.f0) from by unfold keysR; rw [List.eq_nil_of_length_eq_zero h1]; simp]
    · rw [decide_eq_false h1]; simp
end Go.Proofs.Ytcjnknpbikfimaa.NodeLem
