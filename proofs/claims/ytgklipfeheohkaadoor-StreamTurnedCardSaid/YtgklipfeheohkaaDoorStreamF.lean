/- The laws' own: what is shown, few records. -/
import Derived.Test.YtgklipfeheohkaaDoorStreamP
import Derived.Test.YtgklipfeheohkaaDoorPx4
namespace Go.Proofs.YtgklipfeheohkaaDoor.P
open Go.RowKit Go.Proofs.YtgklipfeheohkaaDoorW.PrintWords Go.Proofs.YtgklipfeheohkaaDoorW.PrintLast Go.Proofs.YtgklipfeheohkaaDoorW.PrintMore Go.Proofs.YtgklipfeheohkaaDoor.NumLem
set_option linter.unusedVariables false
/-- A record, its data cut. -/
def cut300 (r : S37) : S37 := ⟨r.f0, r.f1, r.f2, r.f3, r.f4.take 300⟩
def fewR (l : List S37) : List S37 := (l.take 40).map cut300
theorem fewR_len (l : List S37) : (fewR l).length ≤ 40 := by unfold fewR; rw [List.length_map, List.length_take]; omega
theorem few_l0 (l : List S37) : ∀ (n j k : Nat) (acc : List S37), 40 - j ≤ n → j ≤ 40 → j ≤ l.length → 2 * n + 2 < k → acc.length ≤ j → cambiumlaw19_few.l0 k l acc (j : Int) = some (acc ++ ((l.drop j).take (40 - j)).map cut300) := by
  intro n
  induction n with
  | zero =>
    intro j k acc hn hj hjl hk ha
    obtain ⟨q, rfl⟩ : ∃ q, k = q + 2 := ⟨k - 2, by omega⟩
    obtain rfl : j = 40 := by omega
    simp only [cambiumlaw19_few.l0, cambiumlaw19_few.j1]
    simp
  | succ n ih =>
    intro j k acc hn hj hjl hk ha
    obtain ⟨q, rfl⟩ : ∃ q, k = q + 2 := ⟨k - 2, by omega⟩
    simp only [cambiumlaw19_few.l0, cambiumlaw19_few.j1]
    by_cases hlt : j < l.length
    · rw [if_pos (Int.ofNat_lt.2 hlt)]
      by_cases h40 : j < 40
      · have ih' := fun (x : S37) (hx : cut300 l[j] = x) => ih (j + 1) q (acc ++ [x]) (by omega) (by omega) hlt (by omega) (by rw [List.length_append, List.length_singleton]; omega)
        rw [decide_eq_true (show (j : Int) < 40 by omega), if_pos rfl, if_pos (Int.natCast_nonneg j), if_pos (Int.ofNat_lt.2 hlt), rd37_at l j hlt, wr_ j (by omega)]
        have hd : (l.drop j).take (40 - j) = l[j] :: (l.drop (j + 1)).take (40 - (j + 1)) := by
          rw [List.drop_eq_getElem_cons hlt, show 40 - j = (40 - (j + 1)) + 1 from by omega, List.take_succ_cons]
        rw [hd, List.map_cons]
        by_cases h300 : (l[j].f4.length : Int) > 300
        · rw [if_pos h300, if_pos (by omega), if_pos (by omega)]
          refine (ih' _ rfl).trans ?_
          simp
        · rw [if_neg h300, if_pos (by omega)]
          have e : (⟨l[j].f0, l[j].f1, l[j].f2, l[j].f3, l[j].f4⟩ : S37) = cut300 l[j] := by unfold cut300; rw [List.take_of_length_le (by omega)]
          rw [e]
          refine (ih' _ rfl).trans ?_
          simp
      · rw [decide_eq_false (show ¬ (j : Int) < 40 by omega), if_neg (by decide), show 40 - j = 0 from by omega]
        simp
    · rw [if_neg (by omega), if_neg (by decide), List.drop_eq_nil_of_le (by omega)]
      simp
theorem few19_is (l : List S37) (k : Nat) (hk : 90 ≤ k) : cambiumlaw19_few.f k l = some (fewR l) := by
  unfold cambiumlaw19_few.f
  exact few_l0 l 40 0 k [] (by omega) (by omega) (Nat.zero_le _) (by omega) (by simp)
theorem shown_mono : ∀ d, cambiumlaw19_shown.f (300 + d) = some true
  | 0 => shown19_is
  | d + 1 => cambiumlaw19_shown.mono (300 + d) true (shown_mono d)
end Go.Proofs.YtgklipfeheohkaaDoor.P
