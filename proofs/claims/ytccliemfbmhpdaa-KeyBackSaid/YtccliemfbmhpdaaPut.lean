import Derived.Test.YtccliemfbmhpdaaLem
import Derived.Test.YtccliemfbmhpdaaPx3
/-! What laying down a key answers. -/
namespace Go.Proofs.Ytccliemfbmhpdaa.NumLem
open Go.RowKit Go.Proofs.Ytccliemfbmhpdaa.P Go.Proofs.YtccliemfbmhpdaaW.PrintWords Go.Proofs.YtccliemfbmhpdaaW.PrintLast
set_option linter.unusedVariables false
set_option linter.unusedSimpArgs false
theorem take_digits (v : Int) (n : Nat) (r : List Int) (h1 : 1 ≤ n) (h2 : n ≤ 7) (h0 : 0 ≤ v) (hm : v < 256 ^ n) (hb : Bytes r) (hr : r.length ≤ 1000) : num_Take.f (digits v n ++ r) n = some (v, r, 0) := by
  have hd := digits_length n v
  rw [Take_is _ _ ((digits_bytes n v).append hb) (by rw [List.length_append]; omega)]
  unfold takeR
  rw [if_neg (by omega), if_neg (by rw [List.length_append]; omega), Int.toNat_natCast, List.take_append_of_le_length (by omega), List.drop_append_of_le_length (by omega), List.take_of_length_le (by omega), List.drop_of_length_le (by omega), val_digits, Int.emod_eq_of_lt h0 hm]
  simp
theorem put_digits (l : List Int) (v : Int) (n : Nat) (h1 : 1 ≤ n) (h2 : n ≤ 7) (h0 : 0 ≤ v) (hm : v < 256 ^ n) (hl : l.length ≤ 1000) : num_Put.f l v n = some (l ++ digits v n) := by
  have h3 : v < 72057594037927936 := Int.lt_of_lt_of_le hm (pow256 (b := 7) h2)
  rw [Put_is _ _ _ (by omega)]
  unfold putR
  rw [if_neg (by omega), u64_of (by omega) (by omega), Int.toNat_natCast]
def keyRow (a0 a1 a2 : Int) : List Int := digits a0 4 ++ (digits a1 1 ++ digits a2 4)
theorem keyRow_length (a0 a1 a2 : Int) : (keyRow a0 a1 a2).length = 9 := by
  unfold keyRow
  simp only [List.length_append, digits_length]
theorem keyRow_bytes (a0 a1 a2 : Int) : Bytes (keyRow a0 a1 a2) := (digits_bytes _ _).append ((digits_bytes _ _).append (digits_bytes _ _))
theorem Put_key (a0 a1 a2 : Int) (hm : may a0 a1 a2 = true) : key_Put.f [] a0 a1 a2 = some (keyRow a0 a1 a2) := by
  have ha := of_decide_eq_true hm
  have d0 := digits_length 4 a0
  have d1 := digits_length 1 a1
  have e0 := put_digits [] a0 4 (by omega) (by omega) (by omega) (by show a0 < 4294967296; omega) (by simp)
  have e1 := put_digits (digits a0 4) a1 1 (by omega) (by omega) (by omega) (by show a1 < 256; omega) (by omega)
  have e2 := put_digits (digits a0 4 ++ digits a1 1) a2 4 (by omega) (by omega) (by omega) (by show a2 < 4294967296; omega) (by rw [List.length_append]; omega)
  unfold key_Put.f keyRow
  rw [show (4 : Int) = ((4 : Nat) : Int) from rfl, show (1 : Int) = ((1 : Nat) : Int) from rfl, e0, Option.bind_some, List.nil_append, e1, Option.bind_some, e2, Option.bind_some, List.append_assoc]
end Go.Proofs.Ytccliemfbmhpdaa.NumLem
