/- The reference's Good and Put; few; the law StreamPuts in plain words. -/
import Derived.Test.YtgklipfeheohkaaDoorStreamP
import Derived.Test.YtgklipfeheohkaaDoorNumRefRowB
import Derived.Test.YtgklipfeheohkaaDoorSumLemR
import Derived.Test.YtgklipfeheohkaaDoorPx5
import Derived.Test.YtgklipfeheohkaaDoorPx7
import Derived.Test.YtgklipfeheohkaaDoorPx4
namespace Go.Proofs.YtgklipfeheohkaaDoor.P
open Go.RowKit Go.Proofs.YtgklipfeheohkaaDoorW.PrintWords Go.Proofs.YtgklipfeheohkaaDoorW.PrintLast Go.Proofs.YtgklipfeheohkaaDoorW.PrintMore Go.Proofs.YtgklipfeheohkaaDoor.NumLem
open Go.Proofs.YtgklipfeheohkaaDoor.SumLem (bv sum_is ref_more_is)
set_option linter.unusedVariables false
theorem refGood_is (k : Nat) (hk : 2010 ≤ k) (r : S37) : cambiumref19_Good.f k r.f0 r.f1 r.f2 r.f3 r.f4 = some (goodR r) := by
  obtain ⟨q, rfl⟩ : ∃ q, k = q + 4 := ⟨k - 4, by omega⟩
  obtain ⟨a, b, c, d, l⟩ := r
  simp only [cambiumref19_Good.f, cambiumref19_Good.j0, cambiumref19_Good.j1, cambiumref19_Good.j2, cambiumref19_Good.j3, refCut_is _ _ (show 2000 ≤ q + 4 by omega), refCut_is _ _ (show 2000 ≤ q + 3 by omega), Option.bind_some, goodR, okP]
  obtain ⟨pb, hpb⟩ : ∃ p, (cutR b).2 = p := ⟨_, rfl⟩
  obtain ⟨pc, hpc⟩ : ∃ p, (cutR c).2 = p := ⟨_, rfl⟩
  rw [hpb, hpc]
  clear hpb hpc
  generalize l.length = n
  by_cases e : c.toList = []
  all_goals
    by_cases hb : pb = 0 <;> by_cases hc : pc = 0 <;> simp only [e, hb, hc, if_true, if_false]
    all_goals
      by_cases h1 : a < 1
      · simp [h1, show ¬ (1 ≤ a ∧ a ≤ 7) by omega]
      · by_cases h7 : a > 7
        · simp [h1, h7, show ¬ (1 ≤ a ∧ a ≤ 7) by omega]
        · by_cases h3 : a = 3
          · subst h3
            simp
            all_goals ((repeat' split) <;> first | (exfalso; omega) | (simp only [Option.some.injEq]; rw [Bool.eq_iff_iff]; simp; omega) | (simp; omega) | (intros; first | omega | contradiction | simp_all))
          · by_cases h4 : a = 4
            · subst h4
              simp
              all_goals ((repeat' split) <;> first | (exfalso; omega) | (simp only [Option.some.injEq]; rw [Bool.eq_iff_iff]; simp; omega) | (simp; omega) | (intros; first | omega | contradiction | simp_all))
            · by_cases h5 : a = 5
              · subst h5
                simp
                all_goals ((repeat' split) <;> first | (exfalso; omega) | (simp only [Option.some.injEq]; rw [Bool.eq_iff_iff]; simp; omega) | (simp; omega) | (intros; first | omega | contradiction | simp_all))
              · simp [h1, h7, h3, h4, h5, show (1 ≤ a ∧ a ≤ 7) by omega]
                all_goals ((repeat' split) <;> first | (exfalso; omega) | (simp only [Option.some.injEq]; rw [Bool.eq_iff_iff]; simp; omega) | (simp; omega) | (intros; first | omega | contradiction | simp_all))
theorem refPutText_small (k : Nat) (hk : 10 ≤ k) (l : List Int) (s : ByteArray) (hs : s.size ≤ 255) (hl : l.length ≤ 1000000) : cambiumref01_PutText.f k l s = some (l ++ (digits (s.size : Int) 1 ++ bytesOf s), 0) := by
  rw [refPutText_is k hk l s (by omega)]
  unfold putRowR
  have e : putR l (s.size : Int) 1 = l ++ digits (s.size : Int) 1 := putR_digits l s.size 1 (by decide) (by decide) (by omega)
  rw [bytesOf_length, if_neg (by omega), e, List.append_assoc]
theorem refPutBytes_small (k : Nat) (hk : 10 ≤ k) (l x : List Int) (hs : x.length ≤ 65535) (hl : l.length ≤ 1000000) : cambiumref01_PutBytes.f k l x = some (l ++ (digits (x.length : Int) 2 ++ x), 0) := by
  rw [refPutBytes_is k hk l x (by omega)]
  unfold putRowR
  have e : putR l (x.length : Int) 2 = l ++ digits (x.length : Int) 2 := putR_digits l x.length 2 (by decide) (by decide) (by omega)
  rw [if_neg (by omega), e, List.append_assoc]
theorem refPut_small (k : Nat) (hk : 10 ≤ k) (l : List Int) (v : Int) (h0 : 0 ≤ v) (h1 : v ≤ 8192) (hl : l.length ≤ 1000000) : cambiumref01_Put.f k l v 4 = some (l ++ digits v 4) := by
  rw [refPut_k k hk l v 4 (by omega)]
  obtain ⟨m, rfl⟩ := Int.eq_ofNat_of_zero_le h0
  have e : putR l (m : Int) 4 = l ++ digits (m : Int) 4 := putR_digits l m 4 (by decide) (by decide) (by omega)
  rw [e]
theorem refPut_one (k : Nat) (hk : 10 ≤ k) (l : List Int) (v : Int) (h0 : 0 ≤ v) (h1 : v ≤ 7) (hl : l.length ≤ 1000000) : cambiumref01_Put.f k l v 1 = some (l ++ [v % 256]) := by
  rw [refPut_k k hk l v 1 (by omega)]
  obtain ⟨m, rfl⟩ := Int.eq_ofNat_of_zero_le h0
  have e : putR l (m : Int) 1 = l ++ digits (m : Int) 1 := putR_digits l m 1 (by decide) (by decide) (by omega)
  rw [e]
  rfl
theorem refSum_is (k : Nat) (b : List Int) (hb : 10 * b.length < k) (hb2 : b.length ≤ 1000000) : cambiumref02_Sum.f k b = some (crcB b) := by
  unfold cambiumref02_Sum.f
  rw [ref_more_is 0 b (by decide) (by decide) (by omega) k hb]
  rfl
theorem refput_l0 (l : List S37) (hl : l.length ≤ 100) : ∀ (n j k : Nat) (acc : List Int), l.length - j ≤ n → j ≤ l.length → 4 * n + 2000000 < k → acc.length ≤ 1000 * (j + 1) → cambiumref19_Put.l0 k l acc (j : Int) = some (putFrom acc (l.drop j))
  | _, _, 0, _, _, _, h, _ => absurd h (Nat.not_lt_zero _)
  | n, j, k + 1, acc, hn, hj, hk, ha => by
    unfold cambiumref19_Put.l0
    by_cases hlt : j < l.length
    · obtain ⟨m, rfl⟩ : ∃ m, n = m + 1 := ⟨n - 1, by omega⟩
      obtain ⟨q, rfl⟩ : ∃ q, k = q + 2 := ⟨k - 2, by omega⟩
      rw [if_pos (Int.ofNat_lt.2 hlt), if_pos (Int.natCast_nonneg j), rd37_at l j hlt, refGood_is (q + 2) (by omega), Option.bind_some]
      rw [List.drop_eq_getElem_cons hlt]
      obtain ⟨r, hr⟩ : ∃ r, l[j] = r := ⟨_, rfl⟩
      rw [hr]
      cases hg : goodR r with
      | false => rw [if_neg (by decide), putFrom_bad _ _ _ hg]
      | true =>
        have G := (goodR_is r).1 hg
        have h1 := okP_le G.path
        have hk0 := G.kind
        have hlen := recB_len G
        have ih := refput_l0 l hl m (j + 1) q (acc ++ recB r) (by omega) hlt (by omega) (by rw [List.length_append]; omega)
        rw [putFrom_good _ _ _ hg] at ih
        rw [if_pos rfl, refPut_one (q + 2) (by omega) _ _ (by omega) (by omega) (by omega), Option.bind_some, refPutText_small (q + 2) (by omega) _ _ (by omega) (by rw [List.length_append, List.length_singleton]; omega), Option.bind_some]
        by_cases h3 : r.f0 = 3
        · have h2 := okP_le (G.from3 h3)
          have e : acc ++ [r.f0 % 256] ++ (digits (r.f1.size : Int) 1 ++ bytesOf r.f1) ++ (digits (r.f2.size : Int) 1 ++ bytesOf r.f2) = acc ++ recB r := by unfold recB; rw [if_pos h3]; simp only [List.append_assoc]
          rw [if_pos h3, refPutText_small (q + 2) (by omega) _ _ (by omega) (by simp only [List.length_append, digits_length, bytesOf_length, List.length_singleton]; omega), Option.bind_some, e]
          simp only [cambiumref19_Put.j2, cambiumref19_Put.j3, wr_ j (by omega)]
          rw [if_neg (show ¬ r.f0 = 4 by omega), if_neg (show ¬ r.f0 = 4 by omega), if_neg (by simp; omega)]
          exact ih
        · rw [if_neg h3]
          simp only [cambiumref19_Put.j2, cambiumref19_Put.j3, wr_ j (by omega)]
          by_cases h5 : r.f0 = 5
          · have h2 := G.off (Or.inr h5)
            have e : acc ++ [r.f0 % 256] ++ (digits (r.f1.size : Int) 1 ++ bytesOf r.f1) ++ digits r.f3 4 = acc ++ recB r := by unfold recB; rw [if_neg h3, if_pos h5]; simp only [List.append_assoc]
            rw [if_neg (show ¬ r.f0 = 4 by omega), if_pos (by simp [h5]), refPut_small q (by omega) _ _ h2.1 h2.2 (by simp only [List.length_append, digits_length, bytesOf_length, List.length_singleton]; omega), Option.bind_some, if_neg (show ¬ r.f0 = 4 by omega), e]
            exact ih
          · by_cases h4 : r.f0 = 4
            · have h2 := G.off (Or.inl h4)
              have h6 := G.data h4
              have e : acc ++ [r.f0 % 256] ++ (digits (r.f1.size : Int) 1 ++ bytesOf r.f1) ++ digits r.f3 4 ++ (digits (r.f4.length : Int) 2 ++ r.f4) = acc ++ recB r := by unfold recB; rw [if_neg h3, if_neg h5, if_pos h4]; simp only [List.append_assoc]
              rw [if_pos h4, if_pos trivial, refPut_small q (by omega) _ _ h2.1 h2.2 (by simp only [List.length_append, digits_length, bytesOf_length, List.length_singleton]; omega), Option.bind_some, if_pos h4, refPutBytes_small q (by omega) _ _ (by omega) (by simp only [List.length_append, digits_length, bytesOf_length, List.length_singleton]; omega), Option.bind_some, e]
              exact ih
            · have e : acc ++ [r.f0 % 256] ++ (digits (r.f1.size : Int) 1 ++ bytesOf r.f1) = acc ++ recB r := by unfold recB; rw [if_neg h3, if_neg h5, if_neg h4, List.append_nil]; simp only [List.append_assoc]
              rw [if_neg h4, if_neg (by simp [h5]), if_neg h4, e]
              exact ih
    · have hd : l.drop j = [] := List.drop_eq_nil_of_le (by omega)
      have hal : acc.length ≤ 101000 := by omega
      rw [if_neg (by omega), if_pos (by omega), Option.bind_some, refSum_is k _ (by rw [List.length_append, List.length_singleton]; omega) (by rw [List.length_append, List.length_singleton]; omega), Option.bind_some, show cambiumref19_low.f (crcB (acc ++ [8])) = some (lowB (crcB (acc ++ [8]))) from rfl, Option.bind_some, if_pos (by rw [List.length_append, lowB_len, List.length_singleton]; omega), Option.bind_some, hd]
      unfold putFrom finS sealS
      simp only [List.all_nil, if_true, flatB, List.map_nil, List.flatten_nil, List.append_nil]
      split <;> rfl
theorem refput_is (l : List S37) (base : Bool) (hl : l.length ≤ 100) (k : Nat) (hk : 2001000 ≤ k) : cambiumref19_Put.f k l base = some (putS l base) := by
  obtain ⟨q, rfl⟩ : ∃ q, k = q + 1 := ⟨k - 1, by omega⟩
  have h := fun acc (ha : acc.length ≤ 1000) => refput_l0 l hl l.length 0 q acc (by omega) (Nat.zero_le _) (by omega) (by omega)
  unfold cambiumref19_Put.f
  simp only [Option.bind_some]
  cases base with
  | true =>
    rw [if_pos rfl, if_pos (by decide)]
    exact h [67, 66, 1] (by decide)
  | false =>
    rw [if_neg (by decide)]
    exact h [67, 66, 0] (by decide)
/-- A record, its data cut. -/
def cut300 (r : S37) : S37 := ⟨r.f0, r.f1, r.f2, r.f3, r.f4.take 300⟩
def fewR (l : List S37) : List S37 := (l.take 40).map cut300
theorem fewR_len (l : List S37) : (fewR l).length ≤ 40 := by unfold fewR; rw [List.length_map, List.length_take]; omega
theorem few_l0 (l : List S37) : ∀ (n j k : Nat) (acc : List S37), 40 - j ≤ n → j ≤ 40 → j ≤ l.length → 2 * n + 2 < k → acc.length ≤ j → cambiumlaw19_few.l0 k l acc (j : Int) = some (acc ++ ((l.drop j).take (40 - j)).map cut300) := by
  intro n
  induction n with
  | zero =>
    intro j k acc hn hj hjl hk ha
    obtain ⟨q, rfl⟩ : ∃ q, k = q + 2 := ⟨k - 2, by omega⟩
    obtain rfl : j = 40 := by omega
    simp only [cambiumlaw19_few.l0, cambiumlaw19_few.j1]
    simp
  | succ n ih =>
    intro j k acc hn hj hjl hk ha
    obtain ⟨q, rfl⟩ : ∃ q, k = q + 2 := ⟨k - 2, by omega⟩
    simp only [cambiumlaw19_few.l0, cambiumlaw19_few.j1]
    by_cases hlt : j < l.length
    · rw [if_pos (Int.ofNat_lt.2 hlt)]
      by_cases h40 : j < 40
      · have ih' := fun (x : S37) (hx : cut300 l[j] = x) => ih (j + 1) q (acc ++ [x]) (by omega) (by omega) hlt (by omega) (by rw [List.length_append, List.length_singleton]; omega)
        rw [decide_eq_true (show (j : Int) < 40 by omega), if_pos rfl, if_pos (Int.natCast_nonneg j), if_pos (Int.ofNat_lt.2 hlt), rd37_at l j hlt, wr_ j (by omega)]
        have hd : (l.drop j).take (40 - j) = l[j] :: (l.drop (j + 1)).take (40 - (j + 1)) := by
          rw [List.drop_eq_getElem_cons hlt, show 40 - j = (40 - (j + 1)) + 1 from by omega, List.take_succ_cons]
        rw [hd, List.map_cons]
        by_cases h300 : (l[j].f4.length : Int) > 300
        · rw [if_pos h300, if_pos (by omega), if_pos (by omega)]
          refine (ih' _ rfl).trans ?_
          simp
        · rw [if_neg h300, if_pos (by omega)]
          have e : (⟨l[j].f0, l[j].f1, l[j].f2, l[j].f3, l[j].f4⟩ : S37) = cut300 l[j] := by unfold cut300; rw [List.take_of_length_le (by omega)]
          rw [e]
          refine (ih' _ rfl).trans ?_
          simp
      · rw [decide_eq_false (show ¬ (j : Int) < 40 by omega), if_neg (by decide), show 40 - j = 0 from by omega]
        simp
    · rw [if_neg (by omega), if_neg (by decide), List.drop_eq_nil_of_le (by omega)]
      simp
theorem few19_is (l : List S37) (k : Nat) (hk : 90 ≤ k) : cambiumlaw19_few.f k l = some (fewR l) := by
  unfold cambiumlaw19_few.f
  exact few_l0 l 40 0 k [] (by omega) (by omega) (Nat.zero_le _) (by omega) (by simp)
end Go.Proofs.YtgklipfeheohkaaDoor.P
