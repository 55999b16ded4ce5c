import Derived.Test.YtcjnknpbikfimaaNodeA
import Derived.Test.YtcjnknpbikfimaaPx12
/-! Where a key is, or would be. -/
namespace Go.Proofs.Ytcjnknpbikfimaa.NodeLem
open Go.RowKit Go.Proofs.Ytcjnknpbikfimaa.P Go.Proofs.YtcjnknpbikfimaaW.PrintWords Go.Proofs.YtcjnknpbikfimaaW.PrintLast
set_option linter.unusedVariables false
set_option linter.unusedSimpArgs false
theorem mayR_leaf' (lv : Int) (l : List S52) (m : List S57) (h : mayR lv l m = true) (h0 : lv = 0) : m = [] ∧ 1 ≤ l.length ∧ l.length ≤ 6 ∧ risesK (l.map (·.f0)) = true := by
  unfold mayR at h
  rw [if_pos h0] at h
  simp only [Bool.and_eq_true, allF_iff, decide_eq_true_eq] at h
  exact ⟨List.eq_nil_of_length_eq_zero h.2.1, h.2.2.1.1, h.2.2.1.2, h.2.2.2⟩
theorem mayR_inner' (lv : Int) (l : List S52) (m : List S57) (h : mayR lv l m = true) (h0 : lv ≠ 0) : l = [] ∧ 1 ≤ lv ∧ 2 ≤ m.length ∧ m.length ≤ 12 ∧ risesK (m.map (·.f0)) = true := by
  unfold mayR at h
  rw [if_neg h0] at h
  simp only [Bool.and_eq_true, allF_iff, decide_eq_true_eq] at h
  exact ⟨List.eq_nil_of_length_eq_zero h.2.2.1, h.2.1.1, h.2.2.2.1.1, h.2.2.2.1.2, h.2.2.2.2⟩
/-- Where. -/
def seekI (lv : Int) (l : List S52) (m : List S57) (k : S35) : Nat := if lv = 0 then firstN (fun x : S52 => lessK x.f0 k) l else firstN (fun x : S57 => !lessK k x.f0) m - 1
theorem firstN_map {α β : Type} (f : α → β) (p : β → Bool) (l : List α) : firstN p (l.map f) = firstN (fun x => p (f x)) l := by
  induction l with
  | nil => rfl
  | cons x t ih =>
    unfold firstN at ih ⊢
    rw [List.map_cons, List.takeWhile_cons, List.takeWhile_cons]
    cases p (f x) with
    | false => rfl
    | true =>
      rw [if_pos rfl, if_pos rfl, List.length_cons, List.length_cons, ih]
theorem seek_is (lv : Int) (l : List S52) (m : List S57) (k : S35) (hl : l.length ≤ 1000) (hm : m.length ≤ 1000) (h : mayR lv l m = true) : node_Seek.f lv l m k.f0 k.f1 k.f2 = some (((seekI lv l m k : Nat) : Int), decide (seekI lv l m k < (keysR l m).length) && eqK ((keysR l m).getD (seekI lv l m k) z35) k) := by
  unfold node_Seek.f seekI keysR
  rw [if_pos ⟨hl, hm⟩]
  by_cases h0 : lv = 0
  · obtain ⟨rfl, _⟩ := mayR_leaf' lv l m h h0
    rw [if_pos h0, if_pos h0]
    simp only [List.map_nil, List.append_nil, List.length_map]
    rw [show (l.map (·.f0)).getD (firstN (fun x : S52 => lessK x.f0 k) l) z35 = (l.getD (firstN (fun x : S52 => lessK x.f0 k) l) z52).f0 from getD_map (fun x : S52 => x.f0) l _ z52]
  · obtain ⟨rfl, _⟩ := mayR_inner' lv l m h h0
    rw [if_neg h0, if_neg h0]
    simp only [List.map_nil, List.nil_append, List.length_map]
    rw [show (m.map (·.f0)).getD (firstN (fun x : S57 => !lessK k x.f0) m - 1) z35 = (m.getD (firstN (fun x : S57 => !lessK k x.f0) m - 1) z57).f0 from getD_map (fun x : S57 => x.f0) m _ z57]
theorem lessK_trans {a b c : S35} (h1 : lessK a b = true) (h2 : lessK b c = true) : lessK a c = true := by
  unfold lessK at *
  rw [decide_eq_true_eq] at *
  omega
theorem risesK_step (l : List S35) (h : risesK l = true) (i : Nat) (hi : i + 1 < l.length) : lessK (l.getD i z35) (l.getD (i + 1) z35) = true := by
  unfold risesK at h
  have := (allF_iff _ _ _).1 h (i + 1) (Nat.zero_le _) (by omega)
  rw [okAt_succ, Bool.and_eq_true] at this
  exact this.2
theorem firstN_stop {α : Type} (p : α → Bool) (z : α) (l : List α) : firstN p l = l.length ∨ p (l.getD (firstN p l) z) = false := by
  induction l with
  | nil => left; rfl
  | cons x t ih =>
    unfold firstN at ih ⊢
    rw [List.takeWhile_cons]
    cases hp : p x with
    | false => right; exact hp
    | true =>
      rw [if_pos rfl, List.length_cons, List.length_cons]
      rcases ih with h | h
      · left; rw [h]
      · right; exact h
/-- In a leaf: between those that stand ahead, and the others. -/
theorem finds_leaf (l : List S52) (m : List S57) (k : S35) (h : mayR 0 l m = true) : 1 ≤ (keysR l m).length ∧ (keysR l m).length ≤ 6 ∧ seekI 0 l m k ≤ (keysR l m).length ∧ (∀ j, seekI 0 l m k = j + 1 → lessK ((keysR l m).getD j z35) k = true) ∧ (seekI 0 l m k < (keysR l m).length → lessK ((keysR l m).getD (seekI 0 l m k) z35) k = false) ∧ m = [] ∧ keysR l m = l.map (·.f0) := by
  obtain ⟨rfl, h1, h2, _⟩ := mayR_leaf' 0 l m h rfl
  have e : keysR l [] = l.map (·.f0) := by unfold keysR; simp
  have ei : seekI 0 l [] k = firstN (fun x : S52 => lessK x.f0 k) l := by unfold seekI; rw [if_pos rfl]
  rw [e, ei, List.length_map]
  refine ⟨h1, h2, firstN_le _ l, fun j hj => ?_, fun hlt => ?_, rfl, rfl⟩
  · have := firstN_all (fun x : S52 => lessK x.f0 k) z52 l j (by omega)
    rw [show (l.map (·.f0)).getD j z35 = (l.getD j z52).f0 from getD_map (fun x : S52 => x.f0) l j z52]
    exact this
  · rcases firstN_stop (fun x : S52 => lessK x.f0 k) z52 l with q | q
    · omega
    · rw [show (l.map (·.f0)).getD (firstN (fun x : S52 => lessK x.f0 k) l) z35 = (l.getD (firstN (fun x : S52 => lessK x.f0 k) l) z52).f0 from getD_map (fun x : S52 => x.f0) l _ z52]
      exact q
/-- In an inner node: behind the kid's key, and ahead of the next one's. -/
theorem finds_inner (lv : Int) (l : List S52) (m : List S57) (k : S35) (h : mayR lv l m = true) (h0 : lv ≠ 0) : 0 < lv ∧ 2 ≤ (keysR l m).length ∧ (keysR l m).length ≤ 12 ∧ seekI lv l m k < (keysR l m).length ∧ (seekI lv l m k ≠ 0 → lessK k ((keysR l m).getD (seekI lv l m k) z35) = false) ∧ (seekI lv l m k + 1 < (keysR l m).length → lessK k ((keysR l m).getD (seekI lv l m k + 1) z35) = true) := by
  obtain ⟨rfl, h1, h2, h3, h4⟩ := mayR_inner' lv l m h h0
  have e : keysR [] m = m.map (·.f0) := by unfold keysR; simp
  have ei : seekI lv [] m k = firstN (fun x : S57 => !lessK k x.f0) m - 1 := by unfold seekI; rw [if_neg h0]
  have g := fun j => show (m.map (·.f0)).getD j z35 = (m.getD j z57).f0 from getD_map (fun x : S57 => x.f0) m j z57
  rw [e, ei, List.length_map]
  have hle := firstN_le (fun x : S57 => !lessK k x.f0) m
  have hall := firstN_all (fun x : S57 => !lessK k x.f0) z57 m
  have hst := firstN_stop (fun x : S57 => !lessK k x.f0) z57 m
  have hri := fun i => risesK_step _ h4 i
  simp only [g, List.length_map] at hri ⊢
  generalize firstN (fun x : S57 => !lessK k x.f0) m = q at *
  refine ⟨by omega, by omega, by omega, by omega, fun hq => ?_, fun hq => ?_⟩
  · have := hall (q - 1) (by omega)
    simpa using this
  · by_cases hz : q = 0
    · subst hz
      rcases hst with hs | hs
      · omega
      · have h5 : lessK k (m.getD 0 z57).f0 = true := by simpa using hs
        exact lessK_trans h5 (hri 0 (by omega))
    · rcases hst with hs | hs
      · omega
      · rw [show q - 1 + 1 = q by omega]
        simpa using hs
end Go.Proofs.Ytcjnknpbikfimaa.NodeLem
