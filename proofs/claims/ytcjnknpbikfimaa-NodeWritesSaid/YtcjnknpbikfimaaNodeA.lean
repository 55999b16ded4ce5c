import Derived.Test.YtcjnknpbikfimaaPx7
import Derived.Test.YtcjnknpbikfimaaPx5
import Derived.Test.YtcjnknpbikfimaaPx6
import Derived.Test.YtcjnknpbikfimaaPx16
import Derived.Test.YtcjnknpbikfimaaPx13
/-! Keys that may be, and rise; whether a node may be. -/
namespace Go.Proofs.Ytcjnknpbikfimaa.NodeLem
open Go.RowKit Go.Proofs.Ytcjnknpbikfimaa.P Go.Proofs.YtcjnknpbikfimaaW.PrintWords Go.Proofs.YtcjnknpbikfimaaW.PrintLast
set_option linter.unusedVariables false
set_option linter.unusedSimpArgs false
theorem upTo {α : Type} {f : Nat → Option α} (h : ∀ k, LeO (f k) (f (k + 1))) {r : α} {k : Nat} : ∀ d, f k = some r → f (k + d) = some r
  | 0, e => e
  | d + 1, e => h (k + d) r (upTo h d e)
theorem upTo' {α : Type} {f : Nat → Option α} (h : ∀ k, LeO (f k) (f (k + 1))) {r : α} {k m : Nat} (hk : k ≤ m) (e : f k = some r) : f m = some r := by
  obtain ⟨d, rfl⟩ := Nat.le.dest hk
  exact upTo h d e
theorem Less_k (k : Nat) (a b : S35) (hk : 4 ≤ k) : key_Less.f k a.f0 a.f1 a.f2 b.f0 b.f1 b.f2 = some (lessK a b) := upTo' (f := fun k => key_Less.f k a.f0 a.f1 a.f2 b.f0 b.f1 b.f2) (fun k => key_Less.mono _ _ _ _ _ _ k) hk (LessK a b)
theorem refMay_k (a : S35) : cambiumref05_May.f a.f0 a.f1 a.f2 = some (mayK a) := by
  obtain ⟨a0, a1, a2⟩ := a
  unfold cambiumref05_May.f mayK
  by_cases h0 : a0 ≥ 0 <;> by_cases h1 : a1 ≥ 0 <;> by_cases h2 : a2 ≥ 0 <;> by_cases h3 : a0 ≤ 2147483647 <;> by_cases h4 : a1 ≤ 255 <;> by_cases h5 : a2 ≤ 2147483647 <;> simp [h0, h1, h2, h3, h4, h5] <;> omega
theorem refLess_k (a b : S35) : cambiumref05_Less.f a.f0 a.f1 a.f2 b.f0 b.f1 b.f2 = some (lessK a b) := by
  obtain ⟨a0, a1, a2⟩ := a
  obtain ⟨b0, b1, b2⟩ := b
  unfold cambiumref05_Less.f lessK
  by_cases h0 : a0 = b0
  · subst h0
    by_cases h1 : a1 = b1
    · subst h1; simp
    · simp [h1]
  · simp [h0]
/-- All of d from i on. -/
def allF (p : Nat → Bool) : Nat → Nat → Bool
  | _, 0 => true
  | i, d + 1 => p i && allF p (i + 1) d
theorem allF_iff (p : Nat → Bool) : ∀ d i, allF p i d = true ↔ ∀ j, i ≤ j → j < i + d → p j = true := by
  intro d
  induction d with
  | zero => intro i; exact ⟨fun _ j h1 h2 => by omega, fun _ => rfl⟩
  | succ d ih =>
    intro i
    rw [allF, Bool.and_eq_true, ih (i + 1)]
    constructor
    · rintro ⟨h1, h2⟩ j h3 h4
      rcases Nat.eq_or_lt_of_le h3 with h | h
      · rw [← h]; exact h1
      · exact h2 j h (by omega)
    · intro h
      exact ⟨h i (Nat.le_refl _) (by omega), fun j h1 h2 => h j (by omega) (by omega)⟩
theorem allF_congr {p q : Nat → Bool} (d i : Nat) (h : ∀ j, i ≤ j → j < i + d → p j = q j) : allF p i d = allF q i d := by
  rw [Bool.eq_iff_iff, allF_iff, allF_iff]
  constructor
  · intro h1 j h2 h3; rw [← h j h2 h3]; exact h1 j h2 h3
  · intro h1 j h2 h3; rw [h j h2 h3]; exact h1 j h2 h3
def key35 (l : List S35) (j : Nat) : S35 := l.getD j z35
theorem rd52 (l : List S52) (i : Nat) : rd_T52 l (i : Int) = l.getD i z52 := by unfold rd_T52; rw [Int.toNat_natCast]
theorem rd57 (l : List S57) (i : Nat) : rd_T57 l (i : Int) = l.getD i z57 := by unfold rd_T57; rw [Int.toNat_natCast]
theorem rd35 (l : List S35) (i : Nat) : rd_T35 l (i : Int) = l.getD i z35 := by unfold rd_T35; rw [Int.toNat_natCast]
theorem w64_small {x : Int} (h0 : -9223372036854775808 ≤ x) (h1 : x ≤ 9223372036854775807) : wrap64 x = x := by unfold wrap64; omega
theorem inc64 (i : Nat) (h : i ≤ 100000) : wrap64 ((i : Int) + 1) = ((i + 1 : Nat) : Int) := by rw [w64_small (by omega) (by omega)]; rfl
theorem dec64 (i : Nat) (h : i ≤ 100000) : wrap64 (((i + 1 : Nat) : Int) - 1) = (i : Int) := by rw [w64_small (by omega) (by omega)]; omega
theorem okAt_zero (key : Nat → S35) : okAt key 0 = mayK (key 0) := by unfold okAt; simp
theorem okAt_succ (key : Nat → S35) (i : Nat) : okAt key (i + 1) = (mayK (key (i + 1)) && lessK (key i) (key (i + 1))) := by unfold okAt; simp
theorem rises35_loop (l : List S35) (hl : l.length ≤ 1000) (d : Nat) : ∀ k i, i + d = l.length → d + 5 ≤ k → cambiumref06_may.l0 k l (i : Int) = some (allF (okAt (key35 l)) i d) := by
  induction d with
  | zero =>
    intro k i hi hk
    obtain ⟨k, rfl⟩ : ∃ m, k = m + 1 := ⟨k - 1, by omega⟩
    simp only [cambiumref06_may.l0]
    rw [if_neg (by omega)]
    rfl
  | succ d ih =>
    intro k i hi hk
    obtain ⟨k, rfl⟩ : ∃ m, k = m + 1 := ⟨k - 1, by omega⟩
    simp only [cambiumref06_may.l0]
    rw [if_pos (by omega), if_pos (by omega), rd35, refMay_k, Option.bind_some, inc64 i (by omega), ih k (i + 1) (by omega) (by omega), allF]
    cases i with
    | zero =>
      rw [okAt_zero]
      rw [show l.getD 0 z35 = key35 l 0 from rfl]
      cases mayK (key35 l 0) with
      | false => rfl
      | true => simp
    | succ i =>
      rw [dec64 i (by omega), rd35, okAt_succ, refLess_k]
      rw [show l.getD (i + 1) z35 = key35 l (i + 1) from rfl, show l.getD i z35 = key35 l i from rfl]
      cases mayK (key35 l (i + 1)) with
      | false => simp
      | true =>
        rw [if_pos rfl, if_pos (by omega), if_pos (by omega), if_pos (by omega), Option.bind_some]
        cases lessK (key35 l i) (key35 l (i + 1)) with
        | false => simp
        | true => simp
/-- Keys may be, and rise. -/
def risesK (l : List S35) : Bool := allF (okAt (key35 l)) 0 l.length
theorem getD_map {α β : Type} (f : α → β) (l : List α) (i : Nat) (z : α) : (l.map f).getD i (f z) = f (l.getD i z) := by
  rw [List.getD_eq_getElem?_getD, List.getD_eq_getElem?_getD, List.getElem?_map]
  cases l[i]? <;> rfl
theorem key35_52 (l : List S52) (j : Nat) : key35 (l.map (·.f0)) j = key52 l j := getD_map (fun x : S52 => x.f0) l j z52
theorem key35_57 (l : List S57) (j : Nat) : key35 (l.map (·.f0)) j = key57 l j := getD_map (fun x : S57 => x.f0) l j z57
theorem risesBy_all (n : Nat) (key : Nat → S35) : risesBy n key = allF (okAt key) 0 n := by
  rw [Bool.eq_iff_iff, allF_iff]
  unfold risesBy
  rw [decide_eq_true_iff]
  exact ⟨fun h j _ h2 => h j (by omega), fun h j h2 => h j (Nat.zero_le _) (by omega)⟩
theorem rises52_is (l : List S52) (hl : l.length ≤ 1000) : api_Item_27.f l = some (risesK (l.map (·.f0))) := by
  unfold api_Item_27.f risesK
  rw [if_pos hl, risesBy_all, List.length_map]
  congr 1
  refine allF_congr _ _ fun j _ _ => ?_
  unfold okAt
  rw [key35_52, key35_52]
theorem rises57_is (l : List S57) (hl : l.length ≤ 1000) : api_Kid_29.f l = some (risesK (l.map (·.f0))) := by
  unfold api_Kid_29.f risesK
  rw [if_pos hl, risesBy_all, List.length_map]
  congr 1
  refine allF_congr _ _ fun j _ _ => ?_
  unfold okAt
  rw [key35_57, key35_57]
theorem rises35_is (k : Nat) (l : List S35) (hl : l.length ≤ 1000) (hk : l.length + 5 ≤ k) : cambiumref06_may.f k l = some (risesK l) := by
  unfold cambiumref06_may.f risesK
  have h := rises35_loop l hl l.length k 0 (by omega) hk
  rw [show ((0 : Nat) : Int) = 0 from rfl] at h
  exact h
/-- A node's keys. -/
def keysR (l : List S52) (m : List S57) : List S35 := l.map (·.f0) ++ m.map (·.f0)
theorem eta35 (a : S35) : (⟨a.f0, a.f1, a.f2⟩ : S35) = a := rfl
theorem take_getD {α : Type} (l : List α) (i : Nat) (z : α) (h : i < l.length) : l.take (i + 1) = l.take i ++ [l.getD i z] := by
  rw [List.take_succ_eq_append_getElem h, List.getD_eq_getElem?_getD, List.getElem?_eq_getElem h]
  rfl
theorem Keys_loop1 (lv : Int) (l : List S52) (m : List S57) (hm : m.length ≤ 1000) (acc : List S35) (ha : acc.length ≤ 1000) (d : Nat) : ∀ k i, i + d = m.length → d < k → cambiumref06_Keys.l1 k (acc ++ (m.take i).map (·.f0)) (i : Int) lv l m = some (acc ++ m.map (·.f0)) := by
  induction d with
  | zero =>
    intro k i hi hk
    obtain ⟨k, rfl⟩ : ∃ q, k = q + 1 := ⟨k - 1, by omega⟩
    simp only [cambiumref06_Keys.l1]
    rw [if_neg (by omega), List.take_of_length_le (by omega)]
  | succ d ih =>
    intro k i hi hk
    obtain ⟨k, rfl⟩ : ∃ q, k = q + 1 := ⟨k - 1, by omega⟩
    simp only [cambiumref06_Keys.l1]
    rw [if_pos (by omega), if_pos (by omega), if_pos (by simp only [List.length_append, List.length_map, List.length_take]; omega), rd57, inc64 i (by omega), eta35, List.append_assoc]
    have := ih k (i + 1) (by omega) (by omega)
    rw [take_getD m i z57 (by omega), List.map_append] at this
    exact this
theorem Keys_loop0 (lv : Int) (l : List S52) (m : List S57) (hl : l.length ≤ 1000) (hm : m.length ≤ 1000) (d : Nat) : ∀ k i, i + d = l.length → d + m.length + 1 < k → cambiumref06_Keys.l0 k ((l.take i).map (·.f0)) (i : Int) lv l m = some (keysR l m) := by
  induction d with
  | zero =>
    intro k i hi hk
    obtain ⟨k, rfl⟩ : ∃ q, k = q + 1 := ⟨k - 1, by omega⟩
    simp only [cambiumref06_Keys.l0]
    rw [if_neg (by omega), List.take_of_length_le (by omega)]
    have := Keys_loop1 lv l m hm (l.map (·.f0)) (by rw [List.length_map]; exact hl) m.length k 0 (by omega) (by omega)
    rw [List.take_zero, List.map_nil, List.append_nil] at this
    exact this
  | succ d ih =>
    intro k i hi hk
    obtain ⟨k, rfl⟩ : ∃ q, k = q + 1 := ⟨k - 1, by omega⟩
    simp only [cambiumref06_Keys.l0]
    rw [if_pos (by omega), if_pos (by omega), if_pos (by simp only [List.length_map, List.length_take]; omega), rd52, inc64 i (by omega), eta35]
    have := ih k (i + 1) (by omega) (by omega)
    rw [take_getD l i z52 (by omega), List.map_append] at this
    exact this
theorem Keys_is (k : Nat) (lv : Int) (l : List S52) (m : List S57) (hl : l.length ≤ 1000) (hm : m.length ≤ 1000) (hk : l.length + m.length + 1 < k) : cambiumref06_Keys.f k lv l m = some (keysR l m) := by
  unfold cambiumref06_Keys.f
  exact Keys_loop0 lv l m hl hm l.length k 0 (by omega) hk
/-- Whether a node may be. -/
def mayR (lv : Int) (l : List S52) (m : List S57) : Bool :=
  if lv = 0 then allF (fun j => decide ((l.getD j z52).f1.length ≤ 28)) 0 l.length && (decide (m.length = 0) && (decide (1 ≤ l.length ∧ l.length ≤ 6) && risesK (l.map (·.f0))))
  else allF (fun j => decide (1 ≤ (m.getD j z57).f1 ∧ (m.getD j z57).f1 ≤ 2047)) 0 m.length && (decide (1 ≤ lv ∧ lv ≤ 7) && (decide (l.length = 0) && (decide (2 ≤ m.length ∧ m.length ≤ 12) && risesK (m.map (·.f0)))))
theorem within_is (a b c : Int) : node_within.f a b c = some (decide (b ≤ a ∧ a ≤ c)) := by
  unfold node_within.f
  by_cases h : b ≤ a
  · rw [if_pos h]; simp [h]
  · rw [if_neg h]; simp [h]
theorem dec_natI {a b : Nat} : decide ((a : Int) ≤ (b : Int)) = decide (a ≤ b) := by rw [decide_eq_decide]; exact Int.ofNat_le
theorem May_loop0 (lv : Int) (l : List S52) (m : List S57) (hl : l.length ≤ 1000) (d : Nat) : ∀ k i, i + d = l.length → d + l.length + 6 ≤ k → node_May.l0 k l (l.length : Int) (i : Int) lv l m = some (allF (fun j => decide ((l.getD j z52).f1.length ≤ 28)) i d && (decide (m.length = 0) && (decide (1 ≤ l.length ∧ l.length ≤ 6) && risesK (l.map (·.f0))))) := by
  induction d with
  | zero =>
    intro k i hi hk
    obtain ⟨k, rfl⟩ : ∃ q, k = q + 1 := ⟨k - 1, by omega⟩
    simp only [node_May.l0]
    rw [if_neg (by omega), within_is, Option.bind_some, rises52_is l hl, Option.bind_some, allF, Bool.true_and]
    by_cases h1 : m.length = 0
    · rw [if_pos (by omega), decide_eq_true h1, Bool.true_and]
      by_cases h2 : 1 ≤ l.length ∧ l.length ≤ 6
      · rw [decide_eq_true (p := 1 ≤ l.length ∧ l.length ≤ 6) h2, if_pos (by rw [decide_eq_true_iff]; omega), Bool.true_and]
      · rw [decide_eq_false (p := 1 ≤ l.length ∧ l.length ≤ 6) h2, if_neg (by rw [decide_eq_true_iff]; omega), Bool.false_and]
    · rw [if_neg (by omega), decide_eq_false h1, Bool.false_and]
  | succ d ih =>
    intro k i hi hk
    obtain ⟨k, rfl⟩ : ∃ q, k = q + 1 := ⟨k - 1, by omega⟩
    simp only [node_May.l0]
    rw [if_pos (by omega), if_pos (by omega), if_pos (by omega), rd52, inc64 i (by omega), allF]
    by_cases h : (l.getD i z52).f1.length ≤ 28
    · rw [if_neg (by omega), ih k (i + 1) (by omega) (by omega), decide_eq_true h, Bool.true_and]
    · rw [if_pos (by omega), decide_eq_false h, Bool.false_and, Bool.false_and]
theorem May_loop1 (lv : Int) (l : List S52) (m : List S57) (hm : m.length ≤ 1000) (d : Nat) : ∀ k i, i + d = m.length → d + m.length + 6 ≤ k → node_May.l1 k m (m.length : Int) (i : Int) lv l m = some (allF (fun j => decide (1 ≤ (m.getD j z57).f1 ∧ (m.getD j z57).f1 ≤ 2047)) i d && (decide (1 ≤ lv ∧ lv ≤ 7) && (decide (l.length = 0) && (decide (2 ≤ m.length ∧ m.length ≤ 12) && risesK (m.map (·.f0)))))) := by
  induction d with
  | zero =>
    intro k i hi hk
    obtain ⟨k, rfl⟩ : ∃ q, k = q + 1 := ⟨k - 1, by omega⟩
    simp only [node_May.l1]
    rw [if_neg (by omega), within_is, Option.bind_some, within_is, Option.bind_some, rises57_is m hm, Option.bind_some, allF, Bool.true_and]
    by_cases h0 : 1 ≤ lv ∧ lv ≤ 7
    · rw [decide_eq_true h0, if_pos rfl, Bool.true_and]
      by_cases h1 : l.length = 0
      · rw [if_pos (by omega), decide_eq_true h1, Bool.true_and]
        by_cases h2 : 2 ≤ m.length ∧ m.length ≤ 12
        · rw [decide_eq_true (p := 2 ≤ m.length ∧ m.length ≤ 12) h2, if_pos (by rw [decide_eq_true_iff]; omega), Bool.true_and]
        · rw [decide_eq_false (p := 2 ≤ m.length ∧ m.length ≤ 12) h2, if_neg (by rw [decide_eq_true_iff]; omega), Bool.false_and]
      · rw [if_neg (by omega), decide_eq_false h1, Bool.false_and]
    · rw [decide_eq_false h0, if_neg (by decide), Bool.false_and]
  | succ d ih =>
    intro k i hi hk
    obtain ⟨k, rfl⟩ : ∃ q, k = q + 1 := ⟨k - 1, by omega⟩
    simp only [node_May.l1]
    rw [if_pos (by omega), if_pos (by omega), if_pos (by omega), rd57, inc64 i (by omega), within_is, Option.bind_some, allF]
    by_cases h : 1 ≤ (m.getD i z57).f1 ∧ (m.getD i z57).f1 ≤ 2047
    · rw [decide_eq_true h, if_pos rfl, ih k (i + 1) (by omega) (by omega), Bool.true_and]
    · rw [decide_eq_false h, if_neg (by decide), Bool.false_and, Bool.false_and]
theorem May_is (k : Nat) (lv : Int) (l : List S52) (m : List S57) (hl : l.length ≤ 1000) (hm : m.length ≤ 1000) (hk : 2 * (l.length + m.length) + 6 ≤ k) : node_May.f k lv l m = some (mayR lv l m) := by
  unfold node_May.f mayR
  by_cases h : lv = 0
  · rw [if_pos h, if_pos h]
    exact May_loop0 lv l m hl l.length k 0 (by omega) (by omega)
  · rw [if_neg h, if_neg h]
    exact May_loop1 lv l m hm m.length k 0 (by omega) (by omega)
theorem refMay_loop0 (t : Bool) (lv : Int) (l : List S52) (m : List S57) (hl : l.length ≤ 1000) (d : Nat) : ∀ k i, i + d = l.length → d < k → cambiumref06_May.l0 k t (i : Int) lv l m = some (allF (fun j => decide ((l.getD j z52).f1.length ≤ 28)) i d && (decide (m.length = 0) && (decide (1 ≤ l.length ∧ l.length ≤ 6) && t))) := by
  induction d with
  | zero =>
    intro k i hi hk
    obtain ⟨k, rfl⟩ : ∃ q, k = q + 1 := ⟨k - 1, by omega⟩
    simp only [cambiumref06_May.l0]
    rw [if_neg (by omega), allF, Bool.true_and]
    cases t with
    | false => simp
    | true =>
      by_cases h1 : m.length = 0 <;> by_cases h2 : 1 ≤ l.length <;> by_cases h3 : l.length ≤ 6 <;> simp [h1, h2, h3] <;> first | omega | (rw [if_pos (by omega), decide_eq_true (by omega)])
  | succ d ih =>
    intro k i hi hk
    obtain ⟨k, rfl⟩ : ∃ q, k = q + 1 := ⟨k - 1, by omega⟩
    simp only [cambiumref06_May.l0]
    rw [if_pos (by omega), if_pos (by omega), rd52, inc64 i (by omega), allF]
    by_cases h : (l.getD i z52).f1.length ≤ 28
    · rw [if_neg (by omega), ih k (i + 1) (by omega) (by omega), decide_eq_true h, Bool.true_and]
    · rw [if_pos (by omega), decide_eq_false h, Bool.false_and, Bool.false_and]
theorem refMay_loop1 (t : Bool) (lv : Int) (l : List S52) (m : List S57) (hm : m.length ≤ 1000) (d : Nat) : ∀ k i, i + d = m.length → d < k → cambiumref06_May.l1 k t (i : Int) lv l m = some (allF (fun j => decide (1 ≤ (m.getD j z57).f1 ∧ (m.getD j z57).f1 ≤ 2047)) i d && (decide (1 ≤ lv ∧ lv ≤ 7) && (decide (l.length = 0) && (decide (2 ≤ m.length ∧ m.length ≤ 12) && t)))) := by
  induction d with
  | zero =>
    intro k i hi hk
    obtain ⟨k, rfl⟩ : ∃ q, k = q + 1 := ⟨k - 1, by omega⟩
    simp only [cambiumref06_May.l1]
    rw [if_neg (by omega), allF, Bool.true_and]
    cases t with
    | false => simp
    | true =>
      by_cases h0 : lv ≥ 1 <;> by_cases h00 : lv < 8 <;> by_cases h1 : l.length = 0 <;> by_cases h2 : 2 ≤ m.length <;> by_cases h3 : m.length ≤ 12 <;> simp [h0, h00, h1, h2, h3] <;> first | omega | (rw [if_pos (by omega), decide_eq_true (by omega)]; first | done | rw [decide_eq_true (by omega)]) | (intros; omega)
  | succ d ih =>
    intro k i hi hk
    obtain ⟨k, rfl⟩ : ∃ q, k = q + 1 := ⟨k - 1, by omega⟩
    simp only [cambiumref06_May.l1]
    rw [if_pos (by omega), if_pos (by omega), rd57, inc64 i (by omega), allF]
    by_cases h : 1 ≤ (m.getD i z57).f1 ∧ (m.getD i z57).f1 ≤ 2047
    · rw [if_neg (by omega), if_neg (by omega), ih k (i + 1) (by omega) (by omega), decide_eq_true h, Bool.true_and]
    · rw [decide_eq_false h, Bool.false_and, Bool.false_and]
      by_cases h1 : (m.getD i z57).f1 < 1
      · rw [if_pos h1]
      · rw [if_neg h1, if_pos (by omega)]
theorem refMay_is (k : Nat) (lv : Int) (l : List S52) (m : List S57) (hl : l.length ≤ 500) (hm : m.length ≤ 500) (hk : 2 * (l.length + m.length) + 6 ≤ k) : cambiumref06_May.f k lv l m = some (mayR lv l m) := by
  unfold cambiumref06_May.f mayR
  have hlen : (keysR l m).length = l.length + m.length := by unfold keysR; simp
  rw [Keys_is k lv l m (by omega) (by omega) (by omega), Option.bind_some, rises35_is k _ (by omega) (by omega), Option.bind_some]
  by_cases h : lv = 0
  · rw [if_pos h, if_pos h]
    refine (refMay_loop0 _ lv l m (by omega) l.length k 0 (by omega) (by omega)).trans ?_
    by_cases h1 : m.length = 0
    · rw [show keysR l m = l.map (·.f0) from by unfold keysR; rw [List.eq_nil_of_length_eq_zero h1]; simp]
    · rw [decide_eq_false h1]; simp
  · rw [if_neg h, if_neg h]
    refine (refMay_loop1 _ lv l m (by omega) m.length k 0 (by omega) (by omega)).trans ?_
    by_cases h1 : l.length = 0
    · rw [show keysR l m = m.map (·.f0) from by unfold keysR; rw [List.eq_nil_of_length_eq_zero h1]; simp]
    · rw [decide_eq_false h1]; simp
theorem few_is (lv : Int) (l : List S52) (m : List S57) : cambiumlaw06_few.f lv l m = some (lv, l.take 20, m.take 20) := by
  unfold cambiumlaw06_few.f
  by_cases h : (l.length : Int) > 20
  · rw [if_pos h, if_pos (by omega), Option.bind_some]
    by_cases h2 : (m.length : Int) > 20
    · rw [if_pos h2, if_pos (by omega)]
    · rw [if_neg h2, List.take_of_length_le (l := m) (by omega)]
  · rw [if_neg h, List.take_of_length_le (l := l) (by omega)]
    by_cases h2 : (m.length : Int) > 20
    · rw [if_pos h2, if_pos (by omega)]
    · rw [if_neg h2, List.take_of_length_le (l := m) (by omega)]
theorem shown_is : cambiumlaw06_shown.f = some true := rfl
end Go.Proofs.Ytcjnknpbikfimaa.NodeLem
