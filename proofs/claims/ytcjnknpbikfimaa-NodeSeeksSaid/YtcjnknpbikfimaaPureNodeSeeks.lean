/- The law NodeSeeks holds: where any key is, or would be, a node's least key, and the blocks that it names, are told alike. No condition. -/
import Derived.Test.YtcjnknpbikfimaaNodeG
import Derived.Test.YtcjnknpbikfimaaPx40
namespace Go.Proofs.Ytcjnknpbikfimaa.Pure
open Go.RowKit Go.Proofs.Ytcjnknpbikfimaa.P Go.Proofs.Ytcjnknpbikfimaa.NodeLem Go.Proofs.YtcjnknpbikfimaaW.PrintWords Go.Proofs.YtcjnknpbikfimaaW.PrintLast
set_option linter.unusedVariables false
theorem seeks_loop (r : List Int) (hr : r.length ≤ 2000) (d : Nat) : ∀ k i, i + d = r.length → d < k → cambiumlaw06_NodeSeeks.l0 k true r r (i : Int) = some true := by
  induction d with
  | zero =>
    intro k i hi hk
    obtain ⟨k, rfl⟩ : ∃ q, k = q + 1 := ⟨k - 1, by omega⟩
    simp only [cambiumlaw06_NodeSeeks.l0]
    rw [if_neg (by omega)]
  | succ d ih =>
    intro k i hi hk
    obtain ⟨k, rfl⟩ : ∃ q, k = q + 1 := ⟨k - 1, by omega⟩
    simp only [cambiumlaw06_NodeSeeks.l0]
    rw [if_pos (by omega), if_pos (by omega), if_pos (by omega), if_pos trivial, inc64 i (by omega)]
    exact ih k (i + 1) (by omega) (by omega)
theorem NodeSeeks (lv : Int) (l : List S52) (m : List S57) (a b c : Int) (hb : BytesV (l.take 20)) : ∃ k, cambiumlaw06_NodeSeeks.f k lv l m a b c = some true := by
  have hl := List.length_take_le 20 l
  have hm := List.length_take_le 20 m
  refine ⟨3000, ?_⟩
  unfold cambiumlaw06_NodeSeeks.f
  rw [shown_is, Option.bind_some, few_is, Option.bind_some]
  dsimp only
  generalize l.take 20 = l at *
  generalize m.take 20 = m at *
  rw [refMay_is 3000 lv l m (by omega) (by omega) (by omega), Option.bind_some]
  by_cases h : mayR lv l m = true
  · obtain ⟨r, r1, r2, r3⟩ := Kids_same 3000 lv l m hb hl hm (by omega)
    obtain ⟨s, s1, s2⟩ := Least_same 3000 lv l m hl hm (by omega)
    have e1 := seek_is lv l m ⟨a, b, c⟩ (by omega) (by omega) h
    have e2 := refSeek_is 3000 lv l m ⟨a, b, c⟩ h (by omega)
    rw [if_pos h, e1, Option.bind_some, e2, Option.bind_some, r1, Option.bind_some, r2, Option.bind_some]
    dsimp only
    rw [if_pos rfl, bne_self_eq_false, if_neg (by decide), if_pos rfl, s1, Option.bind_some, s2, Option.bind_some]
    simp only [beq_self_eq_true, Bool.not_true, Bool.or_self]
    rw [show (3000 : Nat) = 2999 + 1 from rfl]
    simp only [cambiumlaw06_NodeSeeks.j0]
    rw [if_neg (by decide)]
    exact seeks_loop r r3 r.length 2999 0 (by omega) (by omega)
  · rw [if_neg h]
end Go.Proofs.Ytcjnknpbikfimaa.Pure
