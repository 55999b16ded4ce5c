import Derived.Test.YtgklipfeheohkaaDoorCutA
import Derived.Test.YtgklipfeheohkaaDoorNumRowB
import Derived.Test.YtgklipfeheohkaaDoorSumLem
import Derived.Test.YtgklipfeheohkaaDoorPx1
import Derived.Test.YtgklipfeheohkaaDoorPx2
namespace Go.Proofs.YtgklipfeheohkaaDoor.P
open Go.RowKit Go.Proofs.YtgklipfeheohkaaDoorW.PrintWords Go.Proofs.YtgklipfeheohkaaDoorW.PrintLast Go.Proofs.YtgklipfeheohkaaDoorW.PrintMore Go.Proofs.YtgklipfeheohkaaDoor.NumLem
set_option linter.unusedVariables false
def okP (s : ByteArray) : Bool := (cutR s).2 == 0
theorem okP_le {s : ByteArray} (h : okP s = true) : s.size ≤ 200 := by
  unfold okP cutR at h
  split at h
  · exact absurd h (by decide)
  · omega
theorem path_is (s : ByteArray) : stream_path.f s = some (okP s) := rfl
/-- Whether a record may be. -/
def goodR (r : S37) : Bool :=
  decide (1 ≤ r.f0 ∧ r.f0 ≤ 7) && okP r.f1 && (if r.f0 = 3 then okP r.f2 else decide (r.f2.toList = [])) && (if r.f0 = 4 ∨ r.f0 = 5 then decide (0 ≤ r.f3 ∧ r.f3 ≤ 8192) else decide (r.f3 = 0)) && (if r.f0 = 4 then decide (1 ≤ r.f4.length ∧ r.f4.length ≤ 128) else decide (r.f4.length = 0))
structure Good (r : S37) : Prop where
  kind : 1 ≤ r.f0 ∧ r.f0 ≤ 7
  path : okP r.f1 = true
  from3 : r.f0 = 3 → okP r.f2 = true
  from0 : r.f0 ≠ 3 → r.f2 = ⟨#[]⟩
  off : (r.f0 = 4 ∨ r.f0 = 5) → 0 ≤ r.f3 ∧ r.f3 ≤ 8192
  off0 : ¬ (r.f0 = 4 ∨ r.f0 = 5) → r.f3 = 0
  data : r.f0 = 4 → 1 ≤ r.f4.length ∧ r.f4.length ≤ 128
  data0 : r.f0 ≠ 4 → r.f4 = []
theorem goodR_is (r : S37) : goodR r = true ↔ Good r := by
  unfold goodR
  simp only [Bool.and_eq_true, decide_eq_true_eq]
  constructor
  · rintro ⟨⟨⟨⟨h1, h2⟩, h3⟩, h4⟩, h5⟩
    refine ⟨h1, h2, fun e => ?_, fun e => ?_, fun e => ?_, fun e => ?_, fun e => ?_, fun e => ?_⟩
    · rwa [if_pos e] at h3
    · rw [if_neg e] at h3
      exact toList_inj (of_decide_eq_true h3)
    · rw [if_pos e] at h4
      exact of_decide_eq_true h4
    · rw [if_neg e] at h4
      exact of_decide_eq_true h4
    · rw [if_pos e] at h5
      exact of_decide_eq_true h5
    · rw [if_neg e] at h5
      exact List.eq_nil_of_length_eq_zero (of_decide_eq_true h5)
  · intro h
    refine ⟨⟨⟨⟨h.kind, h.path⟩, ?_⟩, ?_⟩, ?_⟩
    · by_cases e : r.f0 = 3
      · rw [if_pos e]; exact h.from3 e
      · rw [if_neg e, h.from0 e]; exact decide_eq_true (by rw [ByteArray.toList_eq])
    · by_cases e : r.f0 = 4 ∨ r.f0 = 5
      · rw [if_pos e]; exact decide_eq_true (h.off e)
      · rw [if_neg e]; exact decide_eq_true (h.off0 e)
    · by_cases e : r.f0 = 4
      · rw [if_pos e]; exact decide_eq_true (h.data e)
      · rw [if_neg e, h.data0 e]; rfl
theorem good_is (k : Nat) (hk : 1 ≤ k) (r : S37) : stream_Good.f k r.f0 r.f1 r.f2 r.f3 r.f4 = some (goodR r) := by
  obtain ⟨q, rfl⟩ : ∃ q, k = q + 1 := ⟨k - 1, by omega⟩
  obtain ⟨a, b, c, d, l⟩ := r
  simp only [stream_Good.f, stream_Good.j0, goodR, path_is, Option.bind_some]
  obtain ⟨pb, hpb⟩ : ∃ p, okP b = p := ⟨_, rfl⟩
  obtain ⟨pc, hpc⟩ : ∃ p, okP c = p := ⟨_, rfl⟩
  rw [hpb, hpc]
  clear hpb hpc
  generalize l.length = n
  by_cases e : c.toList = []
  all_goals
    cases pb <;> cases pc <;> simp only [e, if_true, if_false, Bool.not_true, Bool.not_false]
    all_goals
      by_cases h1 : a < 1
      · simp [h1, show ¬ (1 ≤ a ∧ a ≤ 7) by omega]
      · by_cases h7 : a > 7
        · simp [h1, h7, show ¬ (1 ≤ a ∧ a ≤ 7) by omega]
        · by_cases h3 : a = 3
          · subst h3
            simp
            all_goals ((repeat' split) <;> first | (exfalso; omega) | (simp only [Option.some.injEq]; rw [Bool.eq_iff_iff]; simp; omega) | (simp; omega))
          · by_cases h4 : a = 4
            · subst h4
              simp
              all_goals ((repeat' split) <;> first | (exfalso; omega) | (simp only [Option.some.injEq]; rw [Bool.eq_iff_iff]; simp; omega) | (simp; omega))
            · by_cases h5 : a = 5
              · subst h5
                simp
                all_goals ((repeat' split) <;> first | (exfalso; omega) | (simp only [Option.some.injEq]; rw [Bool.eq_iff_iff]; simp; omega) | (simp; omega))
              · simp [h1, h7, h3, h4, h5, show (1 ≤ a ∧ a ≤ 7) by omega]
                all_goals ((repeat' split) <;> first | (exfalso; omega) | (simp only [Option.some.injEq]; rw [Bool.eq_iff_iff]; simp; omega) | (simp; omega))
open Go.Proofs.YtgklipfeheohkaaDoor.SumLem (bv sum_is)
open Go.Proofs.YtgklipfeheohkaaDoor (Crc.num Crc.crc)
set_option linter.unusedVariables false
/-- A record's bytes. -/
def recB (r : S37) : List Int := [r.f0 % 256] ++ (digits (r.f1.size : Int) 1 ++ bytesOf r.f1) ++ (if r.f0 = 3 then digits (r.f2.size : Int) 1 ++ bytesOf r.f2 else if r.f0 = 5 then digits r.f3 4 else if r.f0 = 4 then digits r.f3 4 ++ (digits (r.f4.length : Int) 2 ++ r.f4) else [])
def flatB (l : List S37) : List Int := (l.map recB).flatten
theorem flatB_cons (r : S37) (l : List S37) : flatB (r :: l) = recB r ++ flatB l := by simp [flatB]
def crcB (l : List Int) : Int := Crc.num (Crc.crc 0#32 (bv l))
def lowB (x : Int) : List Int := [x % 256, x / 256 % 256, x / 65536 % 256, x / 16777216 % 256]
def sealS (b : List Int) : List Int := b ++ [8] ++ lowB (crcB (b ++ [8]))
def finS (b : List Int) : List Int × Int := if ((sealS b).length : Int) > 65536 then ([], 7) else (sealS b, 0)
def putFrom (acc : List Int) (l : List S37) : List Int × Int := if l.all goodR then finS (acc ++ flatB l) else ([], 1)
def headB (base : Bool) : List Int := [67, 66, if base then 1 else 0]
def putS (l : List S37) (base : Bool) : List Int × Int := putFrom (headB base) l
theorem recB_len {r : S37} (h : Good r) : (recB r).length ≤ 403 := by
  have h1 := okP_le h.path
  unfold recB
  simp only [List.length_append, digits_length, List.length_singleton, bytesOf_length]
  split
  · rename_i e
    have h2 := okP_le (h.from3 e)
    simp only [List.length_append, digits_length, bytesOf_length]
    omega
  · split
    · simp only [digits_length]; omega
    · split
      · rename_i e
        have h2 := (h.data e).2
        simp only [List.length_append, digits_length]
        omega
      · simp; omega
theorem rd37_at (l : List S37) (j : Nat) (h : j < l.length) : rd_T37 l (j : Int) = l[j] := by
  unfold rd_T37
  rw [Int.toNat_natCast, List.getD_eq_getElem?_getD, List.getElem?_eq_getElem h]
  rfl
theorem putFrom_good (acc : List Int) (r : S37) (l : List S37) (h : goodR r = true) : putFrom (acc ++ recB r) l = putFrom acc (r :: l) := by
  unfold putFrom
  rw [List.all_cons, h, Bool.true_and, flatB_cons, List.append_assoc]
theorem putFrom_bad (acc : List Int) (r : S37) (l : List S37) (h : goodR r = false) : putFrom acc (r :: l) = ([], 1) := by
  unfold putFrom
  rw [List.all_cons, h, Bool.false_and, if_neg (by decide)]
theorem tail_is (b : List Int) : stream_tail.f b = some (lowB (crcB b)) := by
  unfold stream_tail.f
  rw [sum_is, Option.bind_some]
  rfl
theorem lowB_len (x : Int) : (lowB x).length = 4 := rfl
end Go.Proofs.YtgklipfeheohkaaDoor.P
