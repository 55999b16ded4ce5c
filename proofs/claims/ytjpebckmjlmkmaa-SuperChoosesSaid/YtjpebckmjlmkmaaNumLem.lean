import Derived.Test.YtjpebckmjlmkmaaNumCore
import Derived.Test.YtjpebckmjlmkmaaPx1
import Derived.Laws.BitsLemmas
/-! What the given contracts of num answer, in numbers: taking. -/
namespace Go.Proofs.Ytjpebckmjlmkmaa.NumLem
open Go.RowKit Go.Proofs.Ytjpebckmjlmkmaa.P Go.Proofs.YtjpebckmjlmkmaaW.PrintWords Go.Proofs.YtjpebckmjlmkmaaW.PrintLast
set_option linter.unusedVariables false
set_option linter.unusedSimpArgs false
theorem takeStep_is (x c : Int) (h0 : 0 ≤ x) (h1 : x < 256 ^ 6) (c0 : 0 ≤ c) (c1 : c < 256) : takeStep x c = step x c := by
  have h1' : x < 281474976710656 := h1
  unfold takeStep step
  rw [w64_small (by omega) (by omega), w64_small (by omega) (by omega)]
  have := bits_join .i64 62 (by decide) (fun n h0 h1 => by rw [IntKind.wrap_i64]; have : n < 4611686018427387904 := h1; omega) 8 (x := x * 256) (y := c) (by omega) (by omega) (by show x * 256 < 4611686018427387904; omega) c0 c1 (by show c < 4611686018427387904; omega)
  rw [this]
  omega

theorem fold_is (l : List Int) (h : Bytes l) (hl : l.length ≤ 7) : l.foldl takeStep 0 = val l := by
  induction l using snoc_ind with
  | h0 => rfl
  | h1 l c ih =>
    have hc := h c (by simp)
    have hb : Bytes l := fun x hx => h x (by simp [hx])
    rw [List.length_append, List.length_singleton] at hl
    obtain ⟨i0, i1⟩ := val_range l hb
    have i2 : val l < 256 ^ 6 := Int.lt_of_lt_of_le i1 (pow256 (show l.length ≤ 6 by omega))
    rw [List.foldl_append, ih hb (by omega)]
    show takeStep (val l) c = _
    rw [takeStep_is _ _ i0 i2 hc.1 hc.2, val_snoc]
    rfl

/-- What Take answers. -/
def takeR (l : List Int) (n : Int) : Int × List Int × Int :=
  if n < 1 ∨ 7 < n then (0, [], 1) else if (l.length : Int) < n then (0, [], 2) else (val (l.take n.toNat), l.drop n.toNat, 0)
theorem Take_is (l : List Int) (n : Int) (h : Bytes l) (hl : l.length ≤ 140737488355328) : num_Take.f l n = some (takeR l n) := by
  unfold num_Take.f takeR
  by_cases h1 : n < 1 ∨ 7 < n
  · rw [if_pos h1, if_pos h1]
  rw [if_neg h1, if_neg h1]
  by_cases h2 : (l.length : Int) < n
  · rw [if_pos h2, if_pos h2]
  rw [if_neg h2, if_neg h2, join_is _ _ (by simp only [List.length_nil, List.length_drop]; omega), Option.bind_some, fold_is _ (h.take _) (by rw [List.length_take]; omega)]
  rfl

end Go.Proofs.Ytjpebckmjlmkmaa.NumLem
