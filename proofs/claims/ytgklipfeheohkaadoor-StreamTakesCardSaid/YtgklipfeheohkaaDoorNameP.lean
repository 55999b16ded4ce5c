import Derived.Lib.SplitLaws
import Derived.Lib.Join
import Derived.Test.YtgklipfeheohkaaDoorNameV
namespace Go.Proofs.YtgklipfeheohkaaDoor.P
open Go
set_option linter.unusedVariables false
/-- Cut at each slash. -/
def cutL : List UInt8 → List (List UInt8)
  | [] => [[]]
  | b :: r => if b = 47 then [] :: cutL r else match cutL r with
    | [] => [[b]]
    | x :: xs => (b :: x) :: xs
theorem cutL_slash (r : List UInt8) : cutL (47 :: r) = [] :: cutL r := by simp [cutL]
theorem cutL_other {b : UInt8} (h : b ≠ 47) {r x : List UInt8} {xs : List (List UInt8)} (hr : cutL r = x :: xs) : cutL (b :: r) = (b :: x) :: xs := by simp [cutL, h, hr]
theorem cutL_some : ∀ l : List UInt8, ∃ x xs, cutL l = x :: xs
  | [] => ⟨_, _, rfl⟩
  | b :: r => by
    by_cases h : b = 47
    · subst h; exact ⟨_, _, cutL_slash r⟩
    · obtain ⟨x, xs, hr⟩ := cutL_some r
      exact ⟨_, _, cutL_other h hr⟩
theorem index_cons (b : UInt8) (r : List UInt8) : Lib.index (b :: r) [47] = if b = 47 then 0 else if Lib.index r [47] == -1 then -1 else Lib.index r [47] + 1 := by
  rw [Lib.index]
  by_cases h : b = 47
  · subst h; simp [List.isPrefixOf]
  · have hp : ([47] : List UInt8).isPrefixOf (b :: r) = false := by simp [List.isPrefixOf, Ne.symm h]
    rw [hp]; simp [h]
theorem splitK_cut : ∀ l : List UInt8, Lib.splitK [47] 0 (Lib.count l [47]) l = cutL l
  | [] => by rw [Lib.count_miss (by simp [Lib.index])]; rfl
  | b :: r => by
    have ih := splitK_cut r
    by_cases h : b = 47
    · subst h
      rw [Lib.count_cons_eq, Nat.add_comm, Lib.splitK, index_cons, if_pos rfl, if_neg (by decide), cutL_slash, ← ih]
      simp
    · rw [Lib.count_cons_ne b 47 r h]
      cases hn : Lib.count r [47] with
      | zero =>
        rw [hn, Lib.splitK] at ih
        rw [Lib.splitK, cutL_other h ih.symm]
      | succ k =>
        rw [hn] at ih
        by_cases hm : Lib.index r [47] = -1
        · rw [Lib.count_miss hm] at hn; cases hn
        · have hge := Lib.index_ge r [47]
          obtain ⟨j, hj⟩ : ∃ j : Nat, Lib.index r [47] = j := ⟨(Lib.index r [47]).toNat, by omega⟩
          have hx : Lib.index (b :: r) [47] = ((j + 1 : Nat) : Int) := by rw [index_cons, if_neg h, hj, if_neg (by simp)]; omega
          have d1 : ¬ ((((j + 1 : Nat) : Int)) == -1) = true := fun e => by have := beq_iff_eq.1 e; omega
          have d2 : ¬ (((j : Nat) : Int) == -1) = true := fun e => by have := beq_iff_eq.1 e; omega
          rw [Lib.splitK, hj, if_neg d2, Int.toNat_natCast] at ih
          rw [Lib.splitK, hx, if_neg d1, Int.toNat_natCast, cutL_other h ih.symm]
          simp
theorem cutL_one : ∀ (x : List UInt8), (47 : UInt8) ∉ x → cutL x = [x]
  | [], _ => rfl
  | b :: r, h => by
    simp only [List.mem_cons, not_or] at h
    exact cutL_other (Ne.symm h.1) (cutL_one r h.2)
theorem cutL_first : ∀ (x r : List UInt8), (47 : UInt8) ∉ x → cutL (x ++ 47 :: r) = x :: cutL r
  | [], r, _ => cutL_slash r
  | b :: t, r, h => by
    simp only [List.mem_cons, not_or] at h
    exact cutL_other (Ne.symm h.1) (cutL_first t r h.2)
end Go.Proofs.YtgklipfeheohkaaDoor.P
