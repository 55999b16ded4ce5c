/- Records and streams, in plain words; a stream, put. -/
import Derived.Test.YtgklipfeheohkaaDoorCutA
import Derived.Test.YtgklipfeheohkaaDoorNumRowB
import Derived.Test.YtgklipfeheohkaaDoorSumLem
import Derived.Test.YtgklipfeheohkaaDoorPx1
import Derived.Test.YtgklipfeheohkaaDoorPx2
namespace Go.Proofs.YtgklipfeheohkaaDoor.P
open Go.RowKit Go.Proofs.YtgklipfeheohkaaDoorW.PrintWords Go.Proofs.YtgklipfeheohkaaDoorW.PrintLast Go.Proofs.YtgklipfeheohkaaDoorW.PrintMore Go.Proofs.YtgklipfeheohkaaDoor.NumLem
set_option linter.unusedVariables false
def okP (s : ByteArray) : Bool := (cutR s).2 == 0
theorem okP_le {s : ByteArray} (h : okP s = true) : s.size ≤ 200 := by
  unfold okP cutR at h
  split at h
  · exact absurd h (by decide)
  · omega
theorem path_is (s : ByteArray) : stream_path.f s = some (okP s) := rfl
/-- Whether a record may be. -/
def goodR (r : S37) : Bool :=
  decide (1 ≤ r.f0 ∧ r.f0 ≤ 7) && okP r.f1 && (if r.f0 = 3 then okP r.f2 else decide (r.f2.toList = [])) && (if r.f0 = 4 ∨ r.f0 = 5 then decide (0 ≤ r.f3 ∧ r.f3 ≤ 8192) else decide (r.f3 = 0)) && (if r.f0 = 4 then decide (1 ≤ r.f4.length ∧ r.f4.length ≤ 128) else decide (r.f4.length = 0))
structure Good (r : S37) : Prop where
  kind : 1 ≤ r.f0 ∧ r.f0 ≤ 7
  path : okP r.f1 = true
  from3 : r.f0 = 3 → okP r.f2 = true
  from0 : r.f0 ≠ 3 → r.f2 = ⟨#[]⟩
  off : (r.f0 = 4 ∨ r.f0 = 5) → 0 ≤ r.f3 ∧ r.f3 ≤ 8192
  off0 : ¬ (r.f0 = 4 ∨ r.f0 = 5) → r.f3 = 0
  data : r.f0 = 4 → 1 ≤ r.f4.length ∧ r.f4.length ≤ 128
  data0 : r.f0 ≠ 4 → r.f4 = []
theorem goodR_is (r : S37) : goodR r = true ↔ Good r := by
  unfold goodR
  simp only [Bool.and_eq_true, decide_eq_true_eq]
  constructor
  · rintro ⟨⟨⟨⟨h1, h2⟩, h3⟩, h4⟩, h5⟩
    refine ⟨h1, h2, fun e => ?_, fun e => ?_, fun e => ?_, fun e => ?_, fun e => ?_, fun e => ?_⟩
    · rwa [if_pos e] at h3
    · rw [if_neg e] at h3
      exact toList_inj (of_decide_eq_true h3)
    · rw [if_pos e] at h4
      exact of_decide_eq_true h4
    · rw [if_neg e] at h4
      exact of_decide_eq_true h4
    · rw [if_pos e] at h5
      exact of_decide_eq_true h5
    · rw [if_neg e] at h5
      exact List.eq_nil_of_length_eq_zero (of_decide_eq_true h5)
  · intro h
    refine ⟨⟨⟨⟨h.kind, h.path⟩, ?_⟩, ?_⟩, ?_⟩
    · by_cases e : r.f0 = 3
      · rw [if_pos e]; exact h.from3 e
      · rw [if_neg e, h.from0 e]; exact decide_eq_true (by rw [ByteArray.toList_eq])
    · by_cases e : r.f0 = 4 ∨ r.f0 = 5
      · rw [if_pos e]; exact decide_eq_true (h.off e)
      · rw [if_neg e]; exact decide_eq_true (h.off0 e)
    · by_cases e : r.f0 = 4
      · rw [if_pos e]; exact decide_eq_true (h.data e)
      · rw [if_neg e, h.data0 e]; rfl
theorem good_is (k : Nat) (hk : 1 ≤ k) (r : S37) : stream_Good.f k r.f0 r.f1 r.f2 r.f3 r.f4 = some (goodR r) := by
  obtain ⟨q, rfl⟩ : ∃ q, k = q + 1 := ⟨k - 1, by omega⟩
  obtain ⟨a, b, c, d, l⟩ := r
  simp only [stream_Good.f, stream_Good.j0, goodR, path_is, Option.bind_some]
  obtain ⟨pb, hpb⟩ : ∃ p, okP b = p := ⟨_, rfl⟩
  obtain ⟨pc, hpc⟩ : ∃ p, okP c = p := ⟨_, rfl⟩
  rw [hpb, hpc]
  clear hpb hpc
  generalize l.length = n
  by_cases e : c.toList = []
  all_goals
    cases pb <;> cases pc <;> simp only [e, if_true, if_false, Bool.not_true, Bool.not_false]
    all_goals
      by_cases h1 : a < 1
      · simp [h1, show ¬ (1 ≤ a ∧ a ≤ 7) by omega]
      · by_cases h7 : a > 7
        · simp [h1, h7, show ¬ (1 ≤ a ∧ a ≤ 7) by omega]
        · by_cases h3 : a = 3
          · subst h3
            simp
            all_goals ((repeat' split) <;> first | (exfalso; omega) | (simp only [Option.some.injEq]; rw [Bool.eq_iff_iff]; simp; omega) | (simp; omega))
          · by_cases h4 : a = 4
            · subst h4
              simp
              all_goals ((repeat' split) <;> first | (exfalso; omega) | (simp only [Option.some.injEq]; rw [Bool.eq_iff_iff]; simp; omega) | (simp; omega))
            · by_cases h5 : a = 5
              · subst h5
                simp
                all_goals ((repeat' split) <;> first | (exfalso; omega) | (simp only [Option.some.injEq]; rw [Bool.eq_iff_iff]; simp; omega) | (simp; omega))
              · simp [h1, h7, h3, h4, h5, show (1 ≤ a ∧ a ≤ 7) by omega]
                all_goals ((repeat' split) <;> first | (exfalso; omega) | (simp only [Option.some.injEq]; rw [Bool.eq_iff_iff]; simp; omega) | (simp; omega))
open Go.Proofs.YtgklipfeheohkaaDoor.SumLem (bv sum_is)
open Go.Proofs.YtgklipfeheohkaaDoor (Crc.num Crc.crc)
set_option linter.unusedVariables false
/-- A record's bytes. -/
def recB (r : S37) : List Int := [r.f0 % 256] ++ (digits (r.f1.size : Int) 1 ++ bytesOf r.f1) ++ (if r.f0 = 3 then digits (r.f2.size : Int) 1 ++ bytesOf r.f2 else if r.f0 = 5 then digits r.f3 4 else if r.f0 = 4 then digits r.f3 4 ++ (digits (r.f4.length : Int) 2 ++ r.f4) else [])
def flatB (l : List S37) : List Int := (l.map recB).flatten
theorem flatB_cons (r : S37) (l : List S37) : flatB (r :: l) = recB r ++ flatB l := by simp [flatB]
def crcB (l : List Int) : Int := Crc.num (Crc.crc 0#32 (bv l))
def lowB (x : Int) : List Int := [x % 256, x / 256 % 256, x / 65536 % 256, x / 16777216 % 256]
def sealS (b : List Int) : List Int := b ++ [8] ++ lowB (crcB (b ++ [8]))
def finS (b : List Int) : List Int × Int := if ((sealS b).length : Int) > 65536 then ([], 7) else (sealS b, 0)
def putFrom (acc : List Int) (l : List S37) : List Int × Int := if l.all goodR then finS (acc ++ flatB l) else ([], 1)
def headB (base : Bool) : List Int := [67, 66, if base then 1 else 0]
def putS (l : List S37) (base : Bool) : List Int × Int := putFrom (headB base) l
theorem recB_len {r : S37} (h : Good r) : (recB r).length ≤ 403 := by
  have h1 := okP_le h.path
  unfold recB
  simp only [List.length_append, digits_length, List.length_singleton, bytesOf_length]
  split
  · rename_i e
    have h2 := okP_le (h.from3 e)
    simp only [List.length_append, digits_length, bytesOf_length]
    omega
  · split
    · simp only [digits_length]; omega
    · split
      · rename_i e
        have h2 := (h.data e).2
        simp only [List.length_append, digits_length]
        omega
      · simp; omega
theorem PutText_small (l : List Int) (s : ByteArray) (hs : s.size ≤ 255) (hl : l.length ≤ 1000000) : num_PutText.f l s = some (l ++ (digits (s.size : Int) 1 ++ bytesOf s), 0) := by
  rw [PutText_is l s (by omega)]
  unfold putRowR
  have e : putR l (s.size : Int) 1 = l ++ digits (s.size : Int) 1 := putR_digits l s.size 1 (by decide) (by decide) (by omega)
  rw [bytesOf_length, if_neg (by omega), e, List.append_assoc]
theorem PutBytes_small (l x : List Int) (hs : x.length ≤ 65535) (hl : l.length ≤ 1000000) : num_PutBytes.f l x = some (l ++ (digits (x.length : Int) 2 ++ x), 0) := by
  rw [PutBytes_is l x (by omega)]
  unfold putRowR
  have e : putR l (x.length : Int) 2 = l ++ digits (x.length : Int) 2 := putR_digits l x.length 2 (by decide) (by decide) (by omega)
  rw [if_neg (by omega), e, List.append_assoc]
theorem Put_small (l : List Int) (v : Int) (h0 : 0 ≤ v) (h1 : v ≤ 8192) (hl : l.length ≤ 1000000) : num_Put.f l v 4 = some (l ++ digits v 4) := by
  rw [Put_is l v 4 (by omega)]
  obtain ⟨m, rfl⟩ := Int.eq_ofNat_of_zero_le h0
  have e : putR l (m : Int) 4 = l ++ digits (m : Int) 4 := putR_digits l m 4 (by decide) (by decide) (by omega)
  rw [e]
theorem rd37_at (l : List S37) (j : Nat) (h : j < l.length) : rd_T37 l (j : Int) = l[j] := by
  unfold rd_T37
  rw [Int.toNat_natCast, List.getD_eq_getElem?_getD, List.getElem?_eq_getElem h]
  rfl
theorem putFrom_good (acc : List Int) (r : S37) (l : List S37) (h : goodR r = true) : putFrom (acc ++ recB r) l = putFrom acc (r :: l) := by
  unfold putFrom
  rw [List.all_cons, h, Bool.true_and, flatB_cons, List.append_assoc]
theorem putFrom_bad (acc : List Int) (r : S37) (l : List S37) (h : goodR r = false) : putFrom acc (r :: l) = ([], 1) := by
  unfold putFrom
  rw [List.all_cons, h, Bool.false_and, if_neg (by decide)]
theorem tail_is (b : List Int) : stream_tail.f b = some (lowB (crcB b)) := by
  unfold stream_tail.f
  rw [sum_is, Option.bind_some]
  rfl
theorem lowB_len (x : Int) : (lowB x).length = 4 := rfl
theorem put_l0 (l : List S37) (hl : l.length ≤ 100) : ∀ (n j k : Nat) (acc : List Int), l.length - j ≤ n → j ≤ l.length → n + 3 < k → acc.length ≤ 1000 * (j + 1) → stream_Put.l0 k acc l (l.length : Int) (j : Int) = some (putFrom acc (l.drop j))
  | _, _, 0, _, _, _, h, _ => absurd h (Nat.not_lt_zero _)
  | n, j, k + 1, acc, hn, hj, hk, ha => by
    unfold stream_Put.l0
    by_cases hlt : j < l.length
    · obtain ⟨m, rfl⟩ : ∃ m, n = m + 1 := ⟨n - 1, by omega⟩
      rw [if_pos (Int.ofNat_lt.2 hlt), if_pos (Int.natCast_nonneg j), if_pos (Int.ofNat_lt.2 hlt), rd37_at l j hlt, good_is k (by omega), Option.bind_some, wr_ j (by omega)]
      rw [List.drop_eq_getElem_cons hlt]
      obtain ⟨r, hr⟩ : ∃ r, l[j] = r := ⟨_, rfl⟩
      rw [hr]
      cases hg : goodR r with
      | false => rw [if_neg (by decide), putFrom_bad _ _ _ hg]
      | true =>
        have G := (goodR_is r).1 hg
        have h1 := okP_le G.path
        have hlen := recB_len G
        have ih := put_l0 l hl m (j + 1) k (acc ++ recB r) (by omega) hlt (by omega) (by rw [List.length_append]; omega)
        rw [putFrom_good _ _ _ hg] at ih
        rw [if_pos rfl, PutText_small _ _ (by omega) (by simp), Option.bind_some]
        by_cases h3 : r.f0 = 3
        · have h2 := okP_le (G.from3 h3)
          have e : [r.f0 % 256] ++ (digits (r.f1.size : Int) 1 ++ bytesOf r.f1) ++ (digits (r.f2.size : Int) 1 ++ bytesOf r.f2) = recB r := by unfold recB; rw [if_pos h3]
          rw [if_pos h3, PutText_small _ _ (by omega) (by simp only [List.length_append, digits_length, bytesOf_length, List.length_singleton]; omega), Option.bind_some, e, if_pos (show acc.length + (recB r).length < 140737488355328 by omega)]
          exact ih
        · rw [if_neg h3]
          by_cases h5 : r.f0 = 5
          · have h2 := G.off (Or.inr h5)
            have e : [r.f0 % 256] ++ (digits (r.f1.size : Int) 1 ++ bytesOf r.f1) ++ digits r.f3 4 = recB r := by unfold recB; rw [if_neg h3, if_pos h5]
            rw [if_pos h5, Put_small _ _ h2.1 h2.2 (by simp only [List.length_append, digits_length, bytesOf_length, List.length_singleton]; omega), Option.bind_some, e, if_pos (show acc.length + (recB r).length < 140737488355328 by omega)]
            exact ih
          · rw [if_neg h5]
            by_cases h4 : r.f0 = 4
            · have h2 := G.off (Or.inl h4)
              have h6 := G.data h4
              have e : [r.f0 % 256] ++ (digits (r.f1.size : Int) 1 ++ bytesOf r.f1) ++ digits r.f3 4 ++ (digits (r.f4.length : Int) 2 ++ r.f4) = recB r := by unfold recB; rw [if_neg h3, if_neg h5, if_pos h4, List.append_assoc _ (digits r.f3 4)]
              rw [if_pos h4, Put_small _ _ h2.1 h2.2 (by simp only [List.length_append, digits_length, bytesOf_length, List.length_singleton]; omega), Option.bind_some, PutBytes_small _ _ (by omega) (by simp only [List.length_append, digits_length, bytesOf_length, List.length_singleton]; omega), Option.bind_some, e, if_pos (show acc.length + (recB r).length < 140737488355328 by omega)]
              exact ih
            · have e : [r.f0 % 256] ++ (digits (r.f1.size : Int) 1 ++ bytesOf r.f1) = recB r := by unfold recB; rw [if_neg h3, if_neg h5, if_neg h4, List.append_nil]
              rw [if_neg h4, e, if_pos (show acc.length + (recB r).length < 140737488355328 by omega)]
              exact ih
    · have hd : l.drop j = [] := List.drop_eq_nil_of_le (by omega)
      rw [if_neg (by omega), if_pos (by omega), Option.bind_some, tail_is, Option.bind_some, if_pos (by rw [List.length_append, lowB_len, List.length_singleton]; omega), Option.bind_some, hd]
      unfold putFrom finS sealS
      simp only [List.all_nil, if_true, flatB, List.map_nil, List.flatten_nil, List.append_nil]
      split <;> rfl
theorem put_is' (l : List S37) (base : Bool) (hl : l.length ≤ 100) (k : Nat) (hk : 200 ≤ k) : stream_Put.f k l base = some (putS l base) := by
  obtain ⟨q, rfl⟩ : ∃ q, k = q + 1 := ⟨k - 1, by omega⟩
  have h := fun acc (ha : acc.length ≤ 1000) => put_l0 l hl l.length 0 q acc (by omega) (Nat.zero_le _) (by omega) (by omega)
  unfold stream_Put.f
  simp only [Option.bind_some]
  rw [if_pos (by decide)]
  cases base with
  | true =>
    rw [if_pos rfl, if_pos (by decide)]
    exact h [67, 66, 1] (by decide)
  | false =>
    rw [if_neg (by decide)]
    exact h [67, 66, 0] (by decide)
end Go.Proofs.YtgklipfeheohkaaDoor.P
