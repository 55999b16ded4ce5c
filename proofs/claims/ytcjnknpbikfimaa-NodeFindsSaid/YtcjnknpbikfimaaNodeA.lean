import Derived.Test.YtcjnknpbikfimaaPx7
import Derived.Test.YtcjnknpbikfimaaPx5
import Derived.Test.YtcjnknpbikfimaaPx6
import Derived.Test.YtcjnknpbikfimaaPx13
/-! Keys that may be, and rise; whether a node may be. -/
namespace Go.Proofs.Ytcjnknpbikfimaa.NodeLem
open Go.RowKit Go.Proofs.Ytcjnknpbikfimaa.P Go.Proofs.YtcjnknpbikfimaaW.PrintWords Go.Proofs.YtcjnknpbikfimaaW.PrintLast
set_option linter.unusedVariables false
set_option linter.unusedSimpArgs false
theorem upTo {α : Type} {f : Nat → Option α} (h : ∀ k, LeO (f k) (f (k + 1))) {r : α} {k : Nat} : ∀ d, f k = some r → f (k + d) = some r
  | 0, e => e
  | d + 1, e => h (k + d) r (upTo h d e)
theorem upTo' {α : Type} {f : Nat → Option α} (h : ∀ k, LeO (f k) (f (k + 1))) {r : α} {k m : Nat} (hk : k ≤ m) (e : f k = some r) : f m = some r := by
  obtain ⟨d, rfl⟩ := Nat.le.dest hk
  exact upTo h d e
theorem Less_k (k : Nat) (a b : S35) (hk : 4 ≤ k) : key_Less.f k a.f0 a.f1 a.f2 b.f0 b.f1 b.f2 = some (lessK a b) := upTo' (f := fun k => key_Less.f k a.f0 a.f1 a.f2 b.f0 b.f1 b.f2) (fun k => key_Less.mono _ _ _ _ _ _ k) hk (LessK a b)
/-- All of d from i on. -/
def allF (p : Nat → Bool) : Nat → Nat → Bool
  | _, 0 => true
  | i, d + 1 => p i && allF p (i + 1) d
theorem allF_iff (p : Nat → Bool) : ∀ d i, allF p i d = true ↔ ∀ j, i ≤ j → j < i + d → p j = true := by
  intro d
  induction d with
  | zero => intro i; exact ⟨fun _ j h1 h2 => by omega, fun _ => rfl⟩
  | succ d ih =>
    intro i
    rw [allF, Bool.and_eq_true, ih (i + 1)]
    constructor
    · rintro ⟨h1, h2⟩ j h3 h4
      rcases Nat.eq_or_lt_of_le h3 with h | h
      · rw [← h]; exact h1
      · exact h2 j h (by omega)
    · intro h
      exact ⟨h i (Nat.le_refl _) (by omega), fun j h1 h2 => h j (by omega) (by omega)⟩
theorem allF_congr {p q : Nat → Bool} (d i : Nat) (h : ∀ j, i ≤ j → j < i + d → p j = q j) : allF p i d = allF q i d := by
  rw [Bool.eq_iff_iff, allF_iff, allF_iff]
  constructor
  · intro h1 j h2 h3; rw [← h j h2 h3]; exact h1 j h2 h3
  · intro h1 j h2 h3; rw [h j h2 h3]; exact h1 j h2 h3
def key35 (l : List S35) (j : Nat) : S35 := l.getD j z35
theorem rd52 (l : List S52) (i : Nat) : rd_T52 l (i : Int) = l.getD i z52 := by unfold rd_T52; rw [Int.toNat_natCast]
theorem rd57 (l : List S57) (i : Nat) : rd_T57 l (i : Int) = l.getD i z57 := by unfold rd_T57; rw [Int.toNat_natCast]
theorem rd35 (l : List S35) (i : Nat) : rd_T35 l (i : Int) = l.getD i z35 := by unfold rd_T35; rw [Int.toNat_natCast]
theorem w64_small {x : Int} (h0 : -9223372036854775808 ≤ x) (h1 : x ≤ 9223372036854775807) : wrap64 x = x := by unfold wrap64; omega
theorem inc64 (i : Nat) (h : i ≤ 100000) : wrap64 ((i : Int) + 1) = ((i + 1 : Nat) : Int) := by rw [w64_small (by omega) (by omega)]; rfl
theorem dec64 (i : Nat) (h : i ≤ 100000) : wrap64 (((i + 1 : Nat) : Int) - 1) = (i : Int) := by rw [w64_small (by omega) (by omega)]; omega
theorem okAt_zero (key : Nat → S35) : okAt key 0 = mayK (key 0) := by unfold okAt; simp
theorem okAt_succ (key : Nat → S35) (i : Nat) : okAt key (i + 1) = (mayK (key (i + 1)) && lessK (key i) (key (i + 1))) := by unfold okAt; simp
/-- Keys may be, and rise. -/
def risesK (l : List S35) : Bool := allF (okAt (key35 l)) 0 l.length
theorem getD_map {α β : Type} (f : α → β) (l : List α) (i : Nat) (z : α) : (l.map f).getD i (f z) = f (l.getD i z) := by
  rw [List.getD_eq_getElem?_getD, List.getD_eq_getElem?_getD, List.getElem?_map]
  cases l[i]? <;> rfl
theorem key35_52 (l : List S52) (j : Nat) : key35 (l.map (·.f0)) j = key52 l j := getD_map (fun x : S52 => x.f0) l j z52
theorem key35_57 (l : List S57) (j : Nat) : key35 (l.map (·.f0)) j = key57 l j := getD_map (fun x : S57 => x.f0) l j z57
theorem risesBy_all (n : Nat) (key : Nat → S35) : risesBy n key = allF (okAt key) 0 n := by
  rw [Bool.eq_iff_iff, allF_iff]
  unfold risesBy
  rw [decide_eq_true_iff]
  exact ⟨fun h j _ h2 => h j (by omega), fun h j h2 => h j (Nat.zero_le _) (by omega)⟩
theorem rises52_is (l : List S52) (hl : l.length ≤ 1000) : api_Item_27.f l = some (risesK (l.map (·.f0))) := by
  unfold api_Item_27.f risesK
  rw [if_pos hl, risesBy_all, List.length_map]
  congr 1
  refine allF_congr _ _ fun j _ _ => ?_
  unfold okAt
  rw [key35_52, key35_52]
theorem rises57_is (l : List S57) (hl : l.length ≤ 1000) : api_Kid_29.f l = some (risesK (l.map (·.f0))) := by
  unfold api_Kid_29.f risesK
  rw [if_pos hl, risesBy_all, List.length_map]
  congr 1
  refine allF_congr _ _ fun j _ _ => ?_
  unfold okAt
  rw [key35_57, key35_57]
/-- A node's keys. -/
def keysR (l : List S52) (m : List S57) : List S35 := l.map (·.f0) ++ m.map (·.f0)
theorem eta35 (a : S35) : (⟨a.f0, a.f1, a.f2⟩ : S35) = a := rfl
theorem take_getD {α : Type} (l : List α) (i : Nat) (z : α) (h : i < l.length) : l.take (i + 1) = l.take i ++ [l.getD i z] := by
  rw [List.take_succ_eq_append_getElem h, List.getD_eq_getElem?_getD, List.getElem?_eq_getElem h]
  rfl
/-- Whether a node may be. -/
def mayR (lv : Int) (l : List S52) (m : List S57) : Bool :=
  if lv = 0 then allF (fun j => decide ((l.getD j z52).f1.length ≤ 28)) 0 l.length && (decide (m.length = 0) && (decide (1 ≤ l.length ∧ l.length ≤ 6) && risesK (l.map (·.f0))))
  else allF (fun j => decide (1 ≤ (m.getD j z57).f1 ∧ (m.getD j z57).f1 ≤ 2047)) 0 m.length && (decide (1 ≤ lv ∧ lv ≤ 7) && (decide (l.length = 0) && (decide (2 ≤ m.length ∧ m.length ≤ 12) && risesK (m.map (·.f0)))))
theorem within_is (a b c : Int) : node_within.f a b c = some (decide (b ≤ a ∧ a ≤ c)) := by
  unfold node_within.f
  by_cases h : b ≤ a
  · rw [if_pos h]; simp [h]
  · rw [if_neg h]; simp [h]
theorem dec_natI {a b : Nat} : decide ((a : Int) ≤ (b : Int)) = decide (a ≤ b) := by rw [decide_eq_decide]; exact Int.ofNat_le
theorem May_loop0 (lv : Int) (l : List S52) (m : List S57) (hl : l.length ≤ 1000) (d : Nat) : ∀ k i, i + d = l.length → d + l.length + 6 ≤ k → node_May.l0 k l (l.length : Int) (i : Int) lv l m = some (allF (fun j => decide ((l.getD j z52).f1.length ≤ 28)) i d && (decide (m.length = 0) && (decide (1 ≤ l.length ∧ l.length ≤ 6) && risesK (l.map (·.f0))))) := by
  induction d with
  | zero =>
    intro k i hi hk
    obtain ⟨k, rfl⟩ : ∃ q, k = q + 1 := ⟨k - 1, by omega⟩
    simp only [node_May.l0]
    rw [if_neg (by omega), within_is, Option.bind_some, rises52_is l hl, Option.bind_some, allF, Bool.true_and]
    by_cases h1 : m.length = 0
    · rw [if_pos (by omega), decide_eq_true h1, Bool.true_and]
      by_cases h2 : 1 ≤ l.length ∧ l.length ≤ 6
      · rw [decide_eq_true (p := 1 ≤ l.length ∧ l.length ≤ 6) h2, if_pos (by rw [decide_eq_true_iff]; omega), Bool.true_and]
      · rw [decide_eq_false (p := 1 ≤ l.length ∧ l.length ≤ 6) h2, if_neg (by rw [decide_eq_true_iff]; omega), Bool.false_and]
    · rw [if_neg (by omega), decide_eq_false h1, Bool.false_and]
  | succ d ih =>
    intro k i hi hk
    obtain ⟨k, rfl⟩ : ∃ q, k = q + 1 := ⟨k - 1, by omega⟩
    simp only [node_May.l0]
    rw [if_pos (by omega), if_pos (by omega), if_pos (by omega), rd52, inc64 i (by omega), allF]
    by_cases h : (l.getD i z52).f1.length ≤ 28
    · rw [if_neg (by omega), ih k (i + 1) (by omega) (by omega), decide_eq_true h, Bool.true_and]
    · rw [if_pos (by omega), decide_eq_false h, Bool.false_and, Bool.false_and]
theorem May_loop1 (lv : Int) (l : List S52) (m : List S57) (hm : m.length ≤ 1000) (d : Nat) : ∀ k i, i + d = m.length → d + m.length + 6 ≤ k → node_May.l1 k m (m.length : Int) (i : Int) lv l m = some (allF (fun j => decide (1 ≤ (m.getD j z57).f1 ∧ (m.getD j z57).f1 ≤ 2047)) i d && (decide (1 ≤ lv ∧ lv ≤ 7) && (decide (l.length = 0) && (decide (2 ≤ m.length ∧ m.length ≤ 12) && risesK (m.map (·.f0)))))) := by
  induction d with
  | zero =>
    intro k i hi hk
    obtain ⟨k, rfl⟩ : ∃ q, k = q + 1 := ⟨k - 1, by omega⟩
    simp only [node_May.l1]
    rw [if_neg (by omega), within_is, Option.bind_some, within_is, Option.bind_some, rises57_is m hm, Option.bind_some, allF, Bool.true_and]
    by_cases h0 : 1 ≤ lv ∧ lv ≤ 7
    · rw [decide_eq_true h0, if_pos rfl, Bool.true_and]
      by_cases h1 : l.length = 0
      · rw [if_pos (by omega), decide_eq_true h1, Bool.true_and]
        by_cases h2 : 2 ≤ m.length ∧ m.length ≤ 12
        · rw [decide_eq_true (p := 2 ≤ m.length ∧ m.length ≤ 12) h2, if_pos (by rw [decide_eq_true_iff]; omega), Bool.true_and]
        · rw [decide_eq_false (p := 2 ≤ m.length ∧ m.length ≤ 12) h2, if_neg (by rw [decide_eq_true_iff]; omega), Bool.false_and]
      · rw [if_neg (by omega), decide_eq_false h1, Bool.false_and]
    · rw [decide_eq_false h0, if_neg (by decide), Bool.false_and]
  | succ d ih =>
    intro k i hi hk
    obtain ⟨k, rfl⟩ : ∃ q, k = q + 1 := ⟨k - 1, by omega⟩
    simp only [node_May.l1]
    rw [if_pos (by omega), if_pos (by omega), if_pos (by omega), rd57, inc64 i (by omega), within_is, Option.bind_some, allF]
    by_cases h : 1 ≤ (m.getD i z57).f1 ∧ (m.getD i z57).f1 ≤ 2047
    · rw [decide_eq_true h, if_pos rfl, ih k (i + 1) (by omega) (by omega), Bool.true_and]
    · rw [decide_eq_false h, if_neg (by decide), Bool.false_and, Bool.false_and]
theorem May_is (k : Nat) (lv : Int) (l : List S52) (m : List S57) (hl : l.length ≤ 1000) (hm : m.length ≤ 1000) (hk : 2 * (l.length + m.length) + 6 ≤ k) : node_May.f k lv l m = some (mayR lv l m) := by
  unfold node_May.f mayR
  by_cases h : lv = 0
  · rw [if_pos h, if_pos h]
    exact May_loop0 lv l m hl l.length k 0 (by omega) (by omega)
  · rw [if_neg h, if_neg h]
    exact May_loop1 lv l m hm m.length k 0 (by omega) (by omega)
theorem few_is (lv : Int) (l : List S52) (m : List S57) : cambiumlaw06_few.f lv l m = some (lv, l.take 20, m.take 20) := by
  unfold cambiumlaw06_few.f
  by_cases h : (l.length : Int) > 20
  · rw [if_pos h, if_pos (by omega), Option.bind_some]
    by_cases h2 : (m.length : Int) > 20
    · rw [if_pos h2, if_pos (by omega)]
    · rw [if_neg h2, List.take_of_length_le (l := m) (by omega)]
  · rw [if_neg h, List.take_of_length_le (l := l) (by omega)]
    by_cases h2 : (m.length : Int) > 20
    · rw [if_pos h2, if_pos (by omega)]
    · rw [if_neg h2, List.take_of_length_le (l := m) (by omega)]
theorem shown_is : cambiumlaw06_shown.f = some true := rfl
end Go.Proofs.Ytcjnknpbikfimaa.NodeLem
