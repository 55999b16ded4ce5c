/- The law SealOpens holds: the program and the reference open alike, and refuse alike. No condition. -/
import Derived.Test.YtcadbpneldjpbaaLem
import Derived.Test.YtcadbpneldjpbaaPx5
import Derived.Test.YtcadbpneldjpbaaPx6
namespace Go.Proofs.Ytcadbpneldjpbaa.Pure
open Go.RowKit Go.Proofs.Ytcadbpneldjpbaa.P Go.Proofs.Ytcadbpneldjpbaa.NumLem Go.Proofs.Ytcadbpneldjpbaa.SealLem Go.Proofs.YtcadbpneldjpbaaW.PrintWords Go.Proofs.YtcadbpneldjpbaaW.PrintLast
theorem refCheck_is (k : Nat) (hk : 3000 ≤ k) (l : List Int) (a b : Int) (hb : Bytes l) (hl : l.length ≤ 1000) : cambiumref04_Check.f k l a b = some (checkR l a b) := by
  unfold cambiumref04_Check.f checkR
  rw [refOpen_is k hk l hb hl, Option.bind_some]
  split
  · split
    · split <;> rfl
    · rfl
  · rfl
theorem SealOpens : cambiumlaw04_SealOpens.Pure := by
  intro l a b _ hl hwf _ _
  have hb0 := Bytes.of_wf hwf
  refine ⟨3000, ?_⟩
  unfold cambiumlaw04_SealOpens.f
  rw [shown_is 3000 (by omega), Option.bind_some]
  by_cases h : (l.length : Int) > 300
  · have ht := List.length_take_le 300 l
    have hb := hb0.take 300
    rw [if_pos h, if_pos (by omega)]
    generalize l.take 300 = m at *
    simp only [Option.bind_some, List.nil_append, List.length_nil, Open_is m hb (by omega), refOpen_is 3000 (by omega) m hb (by omega), Check_is m a b hb (by omega), refCheck_is 3000 (by omega) m a b hb (by omega)]
    rw [if_pos (by omega), if_pos (by omega)]
    simp
  · rw [if_neg h]
    simp only [Option.bind_some, List.nil_append, List.length_nil, Open_is l hb0 (by omega), refOpen_is 3000 (by omega) l hb0 (by omega), Check_is l a b hb0 (by omega), refCheck_is 3000 (by omega) l a b hb0 (by omega)]
    rw [if_pos (by omega), if_pos (by omega)]
    simp
end Go.Proofs.Ytcadbpneldjpbaa.Pure
