/- The law StreamPuts: in plain words, and walked. -/
import Derived.Test.YtgklipfeheohkaaDoorStreamR
import Derived.Test.YtgklipfeheohkaaDoorRows
import Derived.Test.YtgklipfeheohkaaDoorPx8
namespace Go.Proofs.YtgklipfeheohkaaDoor.P
open Go.RowKit Go.Proofs.YtgklipfeheohkaaDoorW.PrintWords Go.Proofs.YtgklipfeheohkaaDoorW.PrintLast Go.Proofs.YtgklipfeheohkaaDoorW.PrintMore
set_option linter.unusedVariables false
theorem shown_mono : ∀ d, cambiumlaw19_shown.f (300 + d) = some true
  | 0 => shown19_is
  | d + 1 => cambiumlaw19_shown.mono (300 + d) true (shown_mono d)
theorem puts_l0 (l : List S37) (base : Bool) (hl : l.length ≤ 100) : ∀ (n j k : Nat), l.length - j ≤ n → j ≤ l.length → n + 2002000 < k → cambiumlaw19_StreamPuts.l0 k l base true (j : Int) = some true
  | _, _, 0, _, _, h => absurd h (Nat.not_lt_zero _)
  | n, j, k + 1, hn, hj, hk => by
    unfold cambiumlaw19_StreamPuts.l0
    by_cases hlt : j < l.length
    · obtain ⟨m, rfl⟩ : ∃ m, n = m + 1 := ⟨n - 1, by omega⟩
      rw [if_pos (Int.ofNat_lt.2 hlt), if_pos (Int.natCast_nonneg j), rd37_at l j hlt, good_is k (by omega), Option.bind_some, refGood_is k (by omega), Option.bind_some, if_neg (by simp), wr_ j (by omega)]
      exact puts_l0 l base hl m (j + 1) k (by omega) hlt (by omega)
    · rw [if_neg (by omega), put_is' l base hl k (by omega), Option.bind_some, refput_is l base hl k (by omega), Option.bind_some, if_pos rfl, if_pos rfl]
      simp
theorem Pure_StreamPuts (l : List S37) (base : Bool) : ∃ k, cambiumlaw19_StreamPuts.f k l base = some true := by
  refine ⟨300 + 3000000, ?_⟩
  unfold cambiumlaw19_StreamPuts.f
  rw [shown_mono, Option.bind_some, few19_is l _ (by omega), Option.bind_some]
  exact puts_l0 (fewR l) base (by have := fewR_len l; omega) (fewR l).length 0 _ (by omega) (Nat.zero_le _) (by have := fewR_len l; omega)
theorem StreamPuts_law (z0A : Option Addr) (z0c : Nat) (z0l : (List S37)) (z1n : Bool) (w : World) (h0 : Aside0 (z0l.length ≤ z0c ∧ Kd.C k37 w z0A z0l.length z0l ∧ (z0l.length ≤ maxLen ∧ ∀ y0_ ∈ z0l, ((Lit.int .i64 y0_.f0).wf = true ∧ y0_.f1.size ≤ maxLen ∧ y0_.f2.size ≤ maxLen ∧ (Lit.int .i64 y0_.f3).wf = true ∧ (y0_.f4.length ≤ maxLen ∧ ∀ y1_ ∈ y0_.f4, (Lit.int .u8 y1_).wf = true))))) (h1 : Aside0 (True)) (hL : Aside0 (laidMetH Tryd.prog Rows.streamPutsRow.laid w)) (hS : Aside0 (w.ShapedOpen Tryd.prog)) :
    Calls Tryd.prog 5 #[.slice z0A z0l.length z0c, .bool z1n] w fun e w' => e = .returned (.bool true) ∧ Below w.heap.size w w' := by
  obtain ⟨hc, hr, _⟩ := h0.out
  obtain ⟨k, h⟩ := Pure_StreamPuts z0l z1n
  refine (cambiumlaw19_StreamPuts.calls k _ _ _ _ true w hr hc ⟨rfl⟩ h).mono ?_
  rintro e w' ⟨rfl, hb⟩
  exact ⟨rfl, hb⟩
end Go.Proofs.YtgklipfeheohkaaDoor.P
