/- The law StreamBack: in plain words, and walked. -/
import Derived.Test.YtgklipfeheohkaaDoorStreamU
import Derived.Test.YtgklipfeheohkaaDoorStreamF
import Derived.Test.YtgklipfeheohkaaDoorRows
import Derived.Test.YtgklipfeheohkaaDoorPx16
namespace Go.Proofs.YtgklipfeheohkaaDoor.P
open Go.RowKit Go.Proofs.YtgklipfeheohkaaDoorW.PrintWords Go.Proofs.YtgklipfeheohkaaDoorW.PrintLast Go.Proofs.YtgklipfeheohkaaDoorW.PrintMore Go.Proofs.YtgklipfeheohkaaDoor.NumLem
set_option linter.unusedVariables false
set_option linter.unusedSimpArgs false
theorem take_bad (k : Nat) (hk : 70000 ≤ k) : stream_Take.f k [] = some ([], false, 26) := by
  unfold stream_Take.f
  rw [if_pos (by decide)]
theorem flatB_le : ∀ (l : List S37), Recs l → (flatB l).length ≤ 403 * l.length
  | [], _ => Nat.zero_le _
  | r :: l, h => by
    have h1 := recB_len h.cons.1.1
    have h2 := flatB_le l h.cons.2
    rw [flatB_cons, List.length_append, List.length_cons]
    omega
theorem u8_bytes {l : List Int} (h : ∀ y ∈ l, (Lit.int .u8 y).wf = true) : Bytes l := by
  intro x hx
  exact SumLem.wf_u8 (h x hx)
theorem fewR_bytes {l : List S37} (h : ∀ y0_ ∈ l, ∀ y1_ ∈ y0_.f4, (Lit.int .u8 y1_).wf = true) : ∀ r ∈ fewR l, Bytes r.f4 := by
  intro r hr
  unfold fewR at hr
  obtain ⟨q, hq, rfl⟩ := List.mem_map.1 hr
  exact (u8_bytes (h q (List.mem_of_mem_take hq))).take 300
theorem putS_good (l : List S37) (base : Bool) (hl : l.length ≤ 100) (hb : ∀ r ∈ l, Bytes r.f4) (h : l.all goodR = true) : putS l base = (sealS (headB base ++ flatB l), 0) ∧ IsS (sealS (headB base ++ flatB l)) l base := by
  have hr : Recs l := fun r hr => ⟨(goodR_is r).1 (List.all_eq_true.1 h r hr), hb r hr⟩
  have h2 := flatB_le l hr
  have h3 : (sealS (headB base ++ flatB l)).length ≤ 65536 := by rw [sealS_len, List.length_append, headB_len]; omega
  refine ⟨?_, hr, rfl, h3⟩
  unfold putS putFrom
  rw [if_pos h]
  unfold finS
  rw [if_neg (by omega)]
theorem putS_bad (l : List S37) (base : Bool) (h : l.all goodR = false) : putS l base = ([], 1) := by
  unfold putS putFrom
  rw [if_neg (by rw [h]; decide)]
theorem same_self (l : List S37) (hl : l.length ≤ 100) : cambiumref19_Same.f l l = some true := by
  unfold cambiumref19_Same.f
  rw [if_pos ⟨rfl, by omega⟩]
theorem back_good (l : List S37) (base : Bool) (hl : l.length ≤ 100) (h : l.all goodR = true) (b : List Int) (hb : IsS b l base) : ∀ (n j k : Nat), l.length - j ≤ n → j ≤ l.length → n + 70002 < k → cambiumlaw19_StreamBack.l0 k l base true b 0 (j : Int) = some true
  | _, _, 0, _, _, h => absurd h (Nat.not_lt_zero _)
  | n, j, k + 1, hn, hj, hk => by
    unfold cambiumlaw19_StreamBack.l0
    by_cases hlt : j < l.length
    · obtain ⟨m, rfl⟩ : ∃ m, n = m + 1 := ⟨n - 1, by omega⟩
      rw [if_pos (Int.ofNat_lt.2 hlt), if_pos (Int.natCast_nonneg j), rd37_at l j hlt, good_is k (by omega), Option.bind_some, List.all_eq_true.1 h _ (List.getElem_mem hlt), if_pos rfl, wr_ j (by omega)]
      exact back_good l base hl h b hb m (j + 1) k (by omega) hlt (by omega)
    · rw [if_neg (by omega), take_back2 b l base hb k (by omega), Option.bind_some, same_self l hl, Option.bind_some, if_pos rfl, if_pos rfl, if_pos rfl, if_pos rfl]
      simp
theorem back_bad (l : List S37) (base : Bool) (hl : l.length ≤ 100) : ∀ (n j k : Nat), l.length - j ≤ n → j ≤ l.length → (l.drop j).all goodR = false → n + 2 < k → cambiumlaw19_StreamBack.l0 k l base true [] 1 (j : Int) = some true
  | _, _, 0, _, _, _, h => absurd h (Nat.not_lt_zero _)
  | n, j, k + 1, hn, hj, hd, hk => by
    unfold cambiumlaw19_StreamBack.l0
    by_cases hlt : j < l.length
    · obtain ⟨m, rfl⟩ : ∃ m, n = m + 1 := ⟨n - 1, by omega⟩
      rw [if_pos (Int.ofNat_lt.2 hlt), if_pos (Int.natCast_nonneg j), rd37_at l j hlt, good_is k (by omega), Option.bind_some]
      rw [List.drop_eq_getElem_cons hlt, List.all_cons] at hd
      cases hg : goodR l[j] with
      | true =>
        rw [hg, Bool.true_and] at hd
        rw [if_pos rfl, wr_ j (by omega)]
        exact back_bad l base hl m (j + 1) k (by omega) hlt hd (by omega)
      | false => rw [if_neg (by decide), if_pos rfl, if_pos rfl]; rfl
    · rw [List.drop_eq_nil_of_le (by omega)] at hd
      cases hd
theorem Pure_StreamBack (l : List S37) (base : Bool) (hl : ∀ y0_ ∈ l, ∀ y1_ ∈ y0_.f4, (Lit.int .u8 y1_).wf = true) : ∃ k, cambiumlaw19_StreamBack.f k l base = some true := by
  refine ⟨300 + 3000000, ?_⟩
  have h4 := fewR_len l
  unfold cambiumlaw19_StreamBack.f
  rw [shown_mono, Option.bind_some, few19_is l _ (by omega), Option.bind_some, put_is' (fewR l) base (by omega) _ (by omega), Option.bind_some]
  have hb := fewR_bytes hl
  generalize fewR l = m at h4 hb ⊢
  cases h : m.all goodR with
  | true =>
    obtain ⟨e, hi⟩ := putS_good m base (by omega) hb h
    rw [e]
    exact back_good m base (by omega) h _ hi m.length 0 _ (by omega) (Nat.zero_le _) (by omega)
  | false =>
    rw [putS_bad m base h]
    exact back_bad m base (by omega) m.length 0 _ (by omega) (Nat.zero_le _) (by rw [List.drop_zero]; exact h) (by omega)
theorem StreamBack_law (z0A : Option Addr) (z0c : Nat) (z0l : (List S37)) (z1n : Bool) (w : World) (h0 : Aside0 (z0l.length ≤ z0c ∧ Kd.C k37 w z0A z0l.length z0l ∧ (z0l.length ≤ maxLen ∧ ∀ y0_ ∈ z0l, ((Lit.int .i64 y0_.f0).wf = true ∧ y0_.f1.size ≤ maxLen ∧ y0_.f2.size ≤ maxLen ∧ (Lit.int .i64 y0_.f3).wf = true ∧ (y0_.f4.length ≤ maxLen ∧ ∀ y1_ ∈ y0_.f4, (Lit.int .u8 y1_).wf = true))))) (h1 : Aside0 (True)) (hL : Aside0 (laidMetH Tryd.prog Rows.streamBackRow.laid w)) (hS : Aside0 (w.ShapedOpen Tryd.prog)) :
    Calls Tryd.prog 7 #[.slice z0A z0l.length z0c, .bool z1n] w fun e w' => e = .returned (.bool true) ∧ Below w.heap.size w w' := by
  obtain ⟨hc, hr, _, hy⟩ := h0.out
  obtain ⟨k, h⟩ := Pure_StreamBack z0l z1n fun y hy0 => (hy y hy0).2.2.2.2.2
  refine (cambiumlaw19_StreamBack.calls k _ _ _ _ true w hr hc ⟨rfl⟩ h).mono ?_
  rintro e w' ⟨rfl, hb⟩
  exact ⟨rfl, hb⟩
end Go.Proofs.YtgklipfeheohkaaDoor.P
