import Derived.Test.YtjpebckmjlmkmaaNumLem
import Derived.Test.YtjpebckmjlmkmaaPx4
/-! What the reference's Take answers. -/
namespace Go.Proofs.Ytjpebckmjlmkmaa.NumLem
open Go.RowKit Go.Proofs.Ytjpebckmjlmkmaa.P Go.Proofs.YtjpebckmjlmkmaaW.PrintWords Go.Proofs.YtjpebckmjlmkmaaW.PrintLast
set_option linter.unusedVariables false
set_option linter.unusedSimpArgs false
theorem rd_at (l : List Int) (i : Nat) (h : i < l.length) : rd l (i : Int) = l[i] := by
  unfold rd
  rw [Int.toNat_natCast, List.getD_eq_getElem?_getD, List.getElem?_eq_getElem h]
  rfl
theorem take_snoc (l : List Int) (i : Nat) (h : i < l.length) : val (l.take (i + 1)) = 256 * val (l.take i) + l[i] := by
  rw [List.take_succ_eq_append_getElem h, val_snoc]
theorem refTake_loop (l : List Int) (n : Nat) (hb : Bytes l) (hn : n ≤ 7) (hl : n ≤ l.length) (hs : l.length < 140737488355328) (d : Nat) : ∀ (k i : Nat), i + d = n → d < k →
    cambiumref01_Take.l0 k l n (val (l.take i)) i = some (val (l.take n), l.drop n, 0) := by
  induction d with
  | zero =>
    intro k i hi hk
    obtain ⟨k, rfl⟩ : ∃ m, k = m + 1 := ⟨k - 1, by omega⟩
    obtain rfl : i = n := by omega
    simp only [cambiumref01_Take.l0]
    rw [if_neg (by omega), Option.bind_some, if_pos (by omega), if_pos (by omega), if_pos (by simp only [List.length_nil, List.length_drop]; omega)]
    simp
  | succ d ih =>
    intro k i hi hk
    obtain ⟨k, rfl⟩ : ∃ m, k = m + 1 := ⟨k - 1, by omega⟩
    have hil : i < l.length := by omega
    simp only [cambiumref01_Take.l0]
    rw [if_pos (by omega), if_pos (by omega), if_pos (by omega), rd_at l i hil]
    have hv := val_range (l.take i) (hb.take i)
    have hc := hb l[i] (List.getElem_mem hil)
    have hp : val (l.take i) < 256 ^ 6 := Int.lt_of_lt_of_le hv.2 (pow256 (show (l.take i).length ≤ 6 by rw [List.length_take]; omega))
    have hp' : val (l.take i) < 281474976710656 := hp
    rw [w64_small (x := 256 * val (l.take i)) (by omega) (by omega), w64_small (x := l[i]) (by omega) (by omega), w64_small (by omega) (by omega), ← take_snoc l i hil, w64_small (by omega) (by omega)]
    exact ih k (i + 1) (by omega) (by omega)
theorem refTake_k (k : Nat) (hk : 10 ≤ k) (l : List Int) (n : Int) (hb : Bytes l) (hs : l.length < 140737488355328) : cambiumref01_Take.f k l n = some (takeR l n) := by
  obtain ⟨k, rfl⟩ : ∃ m, k = m + 1 := ⟨k - 1, by omega⟩
  unfold cambiumref01_Take.f takeR
  by_cases h1 : n < 1
  · rw [if_pos h1, if_pos (Or.inl h1)]; simp only [cambiumref01_Take.j0, if_true]
  rw [if_neg h1]
  by_cases h2 : n > 7
  · rw [if_pos (Or.inr h2)]; simp [cambiumref01_Take.j0, h2]
  rw [if_neg (by omega)]
  have : decide (n > 7) = false := by simpa using h2
  rw [this]
  simp only [cambiumref01_Take.j0]
  rw [if_neg (by decide)]
  by_cases h3 : (l.length : Int) < n
  · rw [if_pos h3, if_pos h3]
  rw [if_neg h3, if_neg h3]
  obtain ⟨m, rfl⟩ : ∃ m : Nat, n = m := ⟨n.toNat, by omega⟩
  exact refTake_loop l m hb (by omega) (by omega) hs m k 0 (by omega) (by omega)
theorem refTake_is (l : List Int) (n : Int) (hb : Bytes l) (hs : l.length < 140737488355328) : cambiumref01_Take.f 20 l n = some (takeR l n) := refTake_k 20 (by omega) l n hb hs
end Go.Proofs.Ytjpebckmjlmkmaa.NumLem
