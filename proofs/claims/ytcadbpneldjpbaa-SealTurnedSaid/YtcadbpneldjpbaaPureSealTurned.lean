/- The law SealTurned holds: a block of which one byte is turned is none, nor one that is cut, or has a byte more. No condition. -/
import Derived.Test.YtcadbpneldjpbaaLem
import Derived.Test.YtcadbpneldjpbaaPx6
namespace Go.Proofs.Ytcadbpneldjpbaa.Pure
open Go.RowKit Go.Proofs.Ytcadbpneldjpbaa.P Go.Proofs.Ytcadbpneldjpbaa.NumLem Go.Proofs.Ytcadbpneldjpbaa.SealLem Go.Proofs.YtcadbpneldjpbaaW.PrintWords Go.Proofs.YtcadbpneldjpbaaW.PrintLast
theorem SealTurned : cambiumlaw04_SealTurned.Pure := by
  intro a0 a1 a2 a3 a4 l x y
  intros
  have hwf : ∀ z ∈ l, (Lit.int .u8 z).wf = true := by assumption
  have hb := Bytes.of_wf hwf
  refine ⟨3000, ?_⟩
  unfold cambiumlaw04_SealTurned.f
  rw [shown_is 3000 (by omega), Option.bind_some, if_pos rfl, Seal_is, Option.bind_some]
  by_cases h : sealMay a0 a1 a2 a3 a4 = true ∧ l.length ≤ 236
  · obtain ⟨hm, hl⟩ := h
    have hlen := block_len a0 a1 a2 a3 a4 l hl
    have hbb := block_bytes a0 a1 a2 a3 a4 l hm hb
    have hop := seal_open a0 a1 a2 a3 a4 l hm hl
    rw [sealR_ok _ _ _ _ _ _ hm hl]
    generalize block a0 a1 a2 a3 a4 l = b at *
    have ho : openOk b := (open_iff b hbb).1 (by rw [hop])
    have hat := turnAt_lt x
    have hi : turnAt x < b.length := by omega
    have hby : 0 ≤ turnBy y ∧ turnBy y < 256 ∧ turnBy y ≠ 0 := by unfold turnBy; split <;> omega
    have hr : rd b ((turnAt x : Nat) : Int) = b[turnAt x] := by
      unfold rd
      rw [Int.toNat_natCast, List.getD_eq_getElem?_getD, List.getElem?_eq_getElem hi]
      rfl
    have hc := hbb _ (List.getElem_mem hi)
    have ht := turned_ne b[turnAt x] (turnBy y) hc ⟨hby.1, hby.2.1⟩ hby.2.2
    have n1 : ¬ openOk (b.take (turnAt x)) := fun q => by have := q.1; rw [List.length_take] at this; omega
    have n2 : ¬ openOk (b ++ [y % 256]) := fun q => by have := q.1; rw [List.length_append, List.length_singleton] at this; omega
    have n3 := turned_no b hbb ho (turnAt x) hi _ ht.1 ht.2
    have b2 : Bytes (b ++ [y % 256]) := hbb.append (fun z hz => by obtain rfl := List.mem_singleton.1 hz; omega)
    have b3 : Bytes (b.set (turnAt x) (Go.bits .xor .u8 b[turnAt x] (turnBy y))) := fun z hz => by
      rcases List.mem_or_eq_of_mem_set hz with h | h
      · exact hbb z h
      · rw [h]; exact ht.1
    simp only [hr, Open_is _ (hbb.take _) (show (b.take (turnAt x)).length ≤ 1000 by rw [List.length_take]; omega), Open_is _ b2 (show (b ++ [y % 256]).length ≤ 1000 by rw [List.length_append, List.length_singleton]; omega), Open_is _ b3 (show (b.set (turnAt x) (Go.bits .xor .u8 b[turnAt x] (turnBy y))).length ≤ 1000 by rw [List.length_set]; omega), Option.bind_some, openR_no _ n1, openR_no _ n2, openR_no _ n3]
    rw [if_neg (by decide), if_pos ⟨hlen, trivial, trivial, trivial⟩]
  · obtain ⟨h1, h2⟩ := sealR_no a0 a1 a2 a3 a4 l h
    rw [if_pos h2, if_pos h1]
end Go.Proofs.Ytcadbpneldjpbaa.Pure
