import Derived.Test.YtjpebckmjlmkmaaSealLem
import Derived.Test.YtjpebckmjlmkmaaNumRefTake
import Derived.Test.YtjpebckmjlmkmaaSealPutR
import Derived.Test.YtjpebckmjlmkmaaPx4
/-! What opening answers. -/
namespace Go.Proofs.Ytjpebckmjlmkmaa.SealLem
open Go.RowKit Go.Proofs.Ytjpebckmjlmkmaa.P Go.Proofs.Ytjpebckmjlmkmaa.NumLem Go.Proofs.YtjpebckmjlmkmaaW.PrintWords Go.Proofs.YtjpebckmjlmkmaaW.PrintLast
set_option linter.unusedVariables false
set_option linter.unusedSimpArgs false
theorem refOpen_is (k : Nat) (hk : 3000 ≤ k) (l : List Int) (hb : Bytes l) (hl : l.length ≤ 1000) : cambiumref04_Open.f k l = some (openR l) := by
  unfold cambiumref04_Open.f openR
  by_cases h : l.length = 256
  case neg =>
    have : ¬ openOk l := fun q => h q.1
    rw [if_neg (by omega), if_neg this]
  have T : ∀ (d n : Nat), d + n ≤ 256 → 1 ≤ n → n ≤ 7 → cambiumref01_Take.f k (l.drop d) n = some (val ((l.drop d).take n), l.drop (d + n), 0) := by
    intro d n h1 h2 h3
    rw [refTake_k k (by omega) _ _ (hb.drop d) (by rw [List.length_drop]; omega), take_at l d n (by omega) h2 h3]
  have t0 := T 0 4 (by omega) (by omega) (by omega)
  have t1 := T 4 1 (by omega) (by omega) (by omega)
  have t2 := T 5 1 (by omega) (by omega) (by omega)
  have t3 := T 6 2 (by omega) (by omega) (by omega)
  have t4 := T 8 2 (by omega) (by omega) (by omega)
  have t5 := T 10 5 (by omega) (by omega) (by omega)
  have t6 := T 15 5 (by omega) (by omega) (by omega)
  rw [List.drop_zero] at t0
  have hs := ssum_range (l.drop 4)
  have hsum := refsum_is k (l.drop 4) (by rw [List.length_drop]; omega) (by rw [List.length_drop]; omega)
  rw [if_pos (by omega)]
  simp only [show ((4 : Int)) = ((4 : Nat) : Int) from rfl, show ((1 : Int)) = ((1 : Nat) : Int) from rfl, show ((2 : Int)) = ((2 : Nat) : Int) from rfl, show ((5 : Int)) = ((5 : Nat) : Int) from rfl, t0, t1, t2, t3, t4, t5, t6, Option.bind_some, hsum, Nat.zero_add, Nat.reduceAdd, refMay_is]
  rw [w64_small (by omega) (by omega)]
  by_cases h1 : val (l.take 4) = ssum (l.drop 4)
  case neg =>
    have : ¬ openOk l := fun q => h1 q.2.1
    rw [if_neg h1, if_neg this]
  rw [if_pos h1]
  by_cases h2 : val ((l.drop 15).take 5) = 0
  case neg =>
    have : ¬ openOk l := fun q => h2 q.2.2.1
    rw [if_neg h2, if_neg this]
  rw [if_pos h2]
  by_cases h3 : sealMay (val ((l.drop 4).take 1)) (val ((l.drop 6).take 2)) (val ((l.drop 8).take 2)) (val ((l.drop 5).take 1)) (val ((l.drop 10).take 5)) = true
  case neg =>
    have : ¬ openOk l := fun q => h3 q.2.2.2
    rw [if_neg h3, if_neg this]
  have : openOk l := ⟨h, h1, h2, h3⟩
  rw [if_pos h3, if_pos this]
end Go.Proofs.Ytjpebckmjlmkmaa.SealLem
