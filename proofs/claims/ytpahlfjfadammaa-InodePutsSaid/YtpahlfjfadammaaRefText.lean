import Derived.Test.YtpahlfjfadammaaNumRow
import Derived.Test.YtpahlfjfadammaaNumRefPut
import Derived.Test.YtpahlfjfadammaaPx4
import Derived.Test.YtpahlfjfadammaaPx4
namespace Go.Proofs.Ytpahlfjfadammaa.NumLem
open Go.RowKit Go.Proofs.Ytpahlfjfadammaa.P Go.Proofs.YtpahlfjfadammaaW.PrintWords Go.Proofs.YtpahlfjfadammaaW.PrintLast
theorem refput_is (k : Nat) (hk : 10 ≤ k) (l x : List Int) (n most : Int) (h : l.length + x.length ≤ 140737488355310) : cambiumref01_put.f k l x n most = some (putRowR l x n most) := by
  unfold cambiumref01_put.f putRowR
  by_cases h1 : (x.length : Int) > most
  · rw [if_pos h1, if_pos h1]
  have h2 := putR_len l x.length n
  rw [if_neg h1, if_neg h1, refPut_k k hk _ _ _ (by omega), Option.bind_some, if_pos (by omega)]
theorem refPutText_is (k : Nat) (hk : 10 ≤ k) (l : List Int) (s : ByteArray) (h : l.length + s.size ≤ 140737488355310) : cambiumref01_PutText.f k l s = some (putRowR l (bytesOf s) 1 255) := by
  unfold cambiumref01_PutText.f
  rw [if_pos (by omega), refput_is k hk _ _ _ _ (by rw [bytesOf_length]; exact h)]
end Go.Proofs.Ytpahlfjfadammaa.NumLem
