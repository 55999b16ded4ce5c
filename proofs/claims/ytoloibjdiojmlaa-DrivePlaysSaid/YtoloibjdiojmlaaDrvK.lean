/- What a crash leaves, in plain lists. -/
import Derived.Test.YtoloibjdiojmlaaDrvL
namespace Go.Proofs.Ytoloibjdiojmlaa.P
set_option linter.unusedVariables false
def pickY (x : Int) : Int := if x < 0 then -(x + 1) else x
def pickI (x : Int) (n : Nat) : Nat := ((pickY x).tmod ((n : Int) + 1)).toNat
def crashL : List (List Int) → List (List (List Int)) → List Int → List (List Int)
  | h :: hs, t :: ts, l => if t = [] then h :: crashL hs ts l else (h :: t).getD (pickI (l.headD 0) t.length) [] :: crashL hs ts l.tail
  | hs, _, _ => hs
def crashD (D : DV) (l : List Int) : DV := { D with hs := crashL D.hs D.ts l, ts := D.ts.map (fun _ => []), off := false, fuse := -1 }
theorem crashL_len : ∀ (hs : List (List Int)) (ts : List (List (List Int))) (l : List Int), (crashL hs ts l).length = hs.length
  | [], _, _ => by unfold crashL; rfl
  | _ :: _, [], _ => by unfold crashL; rfl
  | h :: hs, t :: ts, l => by
    unfold crashL
    split
    · rw [List.length_cons, List.length_cons, crashL_len hs ts l]
    · rw [List.length_cons, List.length_cons, crashL_len hs ts l.tail]
structure CrashMid (hs : List (List Int)) (ts : List (List (List Int))) (l : List Int) (i : Nat) (hs' : List (List Int)) (ts' : List (List (List Int))) (l1 : List Int) : Prop where
  H : hs' = (crashL hs ts l).take i ++ hs.drop i
  T : ts' = (ts.take i).map (fun _ => []) ++ ts.drop i
  R : crashL (hs.drop i) (ts.drop i) l1 = (crashL hs ts l).drop i
  L : ts.length = hs.length
  I : i ≤ hs.length
namespace CrashMid
variable {hs hs' : List (List Int)} {ts ts' : List (List (List Int))} {l l1 : List Int} {i : Nat}
theorem start (h : ts.length = hs.length) : CrashMid hs ts l 0 hs ts l := ⟨by simp, by simp, by simp, h, Nat.zero_le _⟩
theorem hlen (h : CrashMid hs ts l i hs' ts' l1) : hs'.length = hs.length := by
  have := h.I
  rw [h.H, List.length_append, List.length_take, List.length_drop, crashL_len]; omega
theorem tlen (h : CrashMid hs ts l i hs' ts' l1) : ts'.length = hs.length := by
  have := h.I
  have := h.L
  rw [h.T, List.length_append, List.length_map, List.length_take, List.length_drop]; omega
theorem hget (h : CrashMid hs ts l i hs' ts' l1) (hi : i < hs.length) : hs'.getD i [] = hs.getD i [] := by
  rw [h.H, List.getD_eq_getElem?_getD, List.getElem?_append_right (by rw [List.length_take, crashL_len]; omega), List.length_take, crashL_len, Nat.min_eq_left (by omega), Nat.sub_self, List.getElem?_drop, Nat.add_zero, List.getD_eq_getElem?_getD]
theorem tget (h : CrashMid hs ts l i hs' ts' l1) (hi : i < hs.length) : ts'.getD i [] = ts.getD i [] := by
  have := h.L
  rw [h.T, List.getD_eq_getElem?_getD, List.getElem?_append_right (by rw [List.length_map, List.length_take]; omega), List.length_map, List.length_take, Nat.min_eq_left (by omega), Nat.sub_self, List.getElem?_drop, Nat.add_zero, List.getD_eq_getElem?_getD]
theorem parts (h : CrashMid hs ts l i hs' ts' l1) (hi : i < hs.length) : ∃ h0 t0, hs.drop i = h0 :: hs.drop (i + 1) ∧ ts.drop i = t0 :: ts.drop (i + 1) ∧ hs.getD i [] = h0 ∧ ts.getD i [] = t0 := by
  have hL := h.L
  refine ⟨hs[i], ts[i], List.drop_eq_getElem_cons hi, List.drop_eq_getElem_cons (by omega), ?_, ?_⟩
  · rw [List.getD_eq_getElem?_getD, List.getElem?_eq_getElem hi]; rfl
  · rw [List.getD_eq_getElem?_getD, List.getElem?_eq_getElem (by omega)]; rfl
theorem take_next {α : Type} {R : List α} {i : Nat} {x : α} {r : List α} (h : R.drop i = x :: r) : R.take (i + 1) = R.take i ++ [x] ∧ R.drop (i + 1) = r := by
  have hi : i < R.length := by
    rcases Nat.lt_or_ge i R.length with q | q
    · exact q
    · rw [List.drop_of_length_le q] at h; cases h
  rw [List.drop_eq_getElem_cons hi] at h
  injection h with h1 h2
  exact ⟨by rw [List.take_add_one, List.getElem?_eq_getElem hi, h1]; rfl, h2⟩
theorem next (h : CrashMid hs ts l i hs' ts' l1) (hi : i < hs.length) {x : List Int} {l2 : List Int} (hx : crashL (hs.drop i) (ts.drop i) l1 = x :: crashL (hs.drop (i + 1)) (ts.drop (i + 1)) l2) : CrashMid hs ts l (i + 1) (hs'.set i x) (ts'.set i []) l2 := by
  obtain ⟨h0, t0, e1, e2, e3, e4⟩ := h.parts hi
  have hR := h.R.symm.trans hx
  obtain ⟨r1, r2⟩ := take_next hR
  have hL := h.L
  refine ⟨?_, ?_, ?_, h.L, hi⟩
  · rw [h.H, r1, List.set_append_right _ _ (by rw [List.length_take, crashL_len]; omega), List.length_take, crashL_len, Nat.min_eq_left (by omega), Nat.sub_self, e1, List.set_cons_zero, List.append_assoc]
    rfl
  · rw [h.T, List.set_append_right _ _ (by rw [List.length_map, List.length_take]; omega), List.length_map, List.length_take, Nat.min_eq_left (by omega), Nat.sub_self, e2, List.set_cons_zero, (take_next e2).1, List.map_append, List.append_assoc]
    rfl
  · rw [r2]
theorem stepA (h : CrashMid hs ts l i hs' ts' l1) (hi : i < hs.length) (ht : ts'.getD i [] = []) : CrashMid hs ts l (i + 1) hs' ts' l1 := by
  obtain ⟨h0, t0, e1, e2, e3, e4⟩ := h.parts hi
  rw [h.tget hi, e4] at ht
  subst ht
  have := h.next hi (x := h0) (l2 := l1) (by rw [e1, e2]; conv => lhs; unfold crashL
                                             simp)
  have q1 : hs'.set i h0 = hs' := by
    have := h.hget hi
    rw [e3] at this
    apply List.ext_getElem?
    intro j
    by_cases hj : i = j
    · subst hj
      rw [List.getElem?_set_self (by rw [h.hlen]; exact hi), ← this, List.getD_eq_getElem?_getD, List.getElem?_eq_getElem (by rw [h.hlen]; exact hi)]
      rfl
    · rw [List.getElem?_set_ne hj]
  have q2 : ts'.set i [] = ts' := by
    have := h.tget hi
    rw [e4] at this
    apply List.ext_getElem?
    intro j
    by_cases hj : i = j
    · subst hj
      rw [List.getElem?_set_self (by rw [h.tlen]; exact hi), ← this, List.getD_eq_getElem?_getD, List.getElem?_eq_getElem (by rw [h.tlen]; exact hi)]
      rfl
    · rw [List.getElem?_set_ne hj]
  rwa [q1, q2] at this
theorem stepB (h : CrashMid hs ts l i hs' ts' l1) (hi : i < hs.length) {t : List (List Int)} (htd : ts'.getD i [] = t) (ht : t ≠ []) : CrashMid hs ts l (i + 1) (hs'.set i ((hs'.getD i [] :: t).getD (pickI (l1.headD 0) t.length) [])) (ts'.set i []) l1.tail := by
  obtain ⟨h0, t0, e1, e2, e3, e4⟩ := h.parts hi
  rw [h.tget hi, e4] at htd
  subst htd
  rw [h.hget hi, e3]
  refine h.next hi ?_
  rw [e1, e2]
  conv => lhs; unfold crashL
  rw [if_neg ht]
theorem stop (h : CrashMid hs ts l hs.length hs' ts' l1) : hs' = crashL hs ts l ∧ ts' = ts.map (fun _ => []) := by
  have h1 := h.H
  have h2 := h.T
  rw [List.drop_length, List.append_nil, List.take_of_length_le (by rw [crashL_len]; exact Nat.le_refl _)] at h1
  rw [← h.L, List.drop_length, List.append_nil, List.take_length] at h2
  exact ⟨h1, h2⟩
end CrashMid
theorem pickI_lt (x : Int) (n : Nat) (hx : -9223372036854775808 ≤ x) : pickI x n < n + 1 ∧ ((pickI x n : Nat) : Int) = (pickY x).tmod ((n : Int) + 1) := by
  have h0 : 0 ≤ pickY x := by unfold pickY; split <;> omega
  unfold pickI
  rw [Int.tmod_eq_emod_of_nonneg h0]
  have h1 := Int.emod_nonneg (pickY x) (show ((n : Int) + 1) ≠ 0 by omega)
  have h2 := Int.emod_lt_of_pos (pickY x) (show 0 < ((n : Int) + 1) by omega)
  omega
theorem crashD_ok {D : DV} (h : DOk D) (l : List Int) : DOk (crashD D l) := by
  obtain ⟨h1, h2, h3, h4⟩ := h
  refine ⟨?_, ?_, ⟨Int.le_refl (-1), show (-1 : Int) ≤ _ from by decide⟩, fun t ht => ?_⟩
  · unfold crashD; dsimp only; rw [crashL_len, List.length_map]; exact h1
  · unfold crashD; dsimp only; rw [crashL_len]; exact h2
  · unfold crashD at ht
    simp only [List.mem_map] at ht
    obtain ⟨_, _, rfl⟩ := ht
    exact Nat.zero_le _
end Go.Proofs.Ytoloibjdiojmlaa.P
