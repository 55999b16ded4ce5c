/- The law NameValid, walked. -/
import Derived.Test.YtafgfaimenccdaaDoorShown14
import Derived.Test.YtafgfaimenccdaaDoorRows
import Derived.Test.YtafgfaimenccdaaDoorPx2
namespace Go.Proofs.YtafgfaimenccdaaDoor.P
open Go.RowKit Go.Proofs.YtafgfaimenccdaaDoorW.PrintWords Go.Proofs.YtafgfaimenccdaaDoorW.PrintLast
set_option linter.unusedVariables false
theorem bt_get (s : ByteArray) (pos : Nat) (h : pos < s.size) : bt s (pos : Int) = ((s.get! pos).toNat : Int) := by
  unfold bt
  rw [get!_is s pos h]
  simp only [Int.toNat_natCast]
  rw [dif_pos h]
theorem validR_bad {s : ByteArray} (h20 : ¬ s.size > 20) (h : anyBad s = true) : validR s = 12 := by
  unfold validR
  rw [if_neg h20, h]
  split <;> rfl
theorem Valid_l0 (s : ByteArray) (h20 : ¬ s.size > 20) : ∀ (k pos : Nat), pos ≤ s.size → Clean s pos → s.size - pos < k → cambiumref14_Valid.l0 k s (pos : Int) = some (validR s)
  | 0, pos, _, _, h => absurd h (Nat.not_lt_zero _)
  | k + 1, pos, hp, hc, h => by
    unfold cambiumref14_Valid.l0
    by_cases hlt : pos < s.size
    · rw [if_pos (Int.ofNat_lt.2 hlt), if_pos (Int.natCast_nonneg pos), bt_get s pos hlt]
      by_cases h0 : (s.get! pos).toNat = 0
      · rw [if_pos (by omega), validR_bad h20 (anyBad_yes hlt (by unfold badB; rw [h0]; rfl))]
      · rw [if_neg (by omega)]
        by_cases h47 : (s.get! pos).toNat = 47
        · rw [if_pos (by omega), validR_bad h20 (anyBad_yes hlt (by unfold badB; rw [h47]; rfl))]
        · rw [if_neg (by omega), show wrap64 ((pos : Int) + 1) = ((pos + 1 : Nat) : Int) from by unfold wrap64; omega]
          refine Valid_l0 s h20 k (pos + 1) hlt (fun j hj hjs => ?_) (by omega)
          by_cases hq : j < pos
          · exact hc j hq hjs
          · obtain rfl : j = pos := by omega
            unfold badB
            rw [Bool.or_eq_false_iff]
            exact ⟨beq_false_of_ne h0, beq_false_of_ne h47⟩
    · rw [if_neg (by omega)]
      have hb := anyBad_no (s := s) (fun j hj hjs => hc j (by omega) hjs)
      unfold validR
      rw [if_neg h20, hb]
      by_cases a1 : s.toList = []
      · rw [if_pos a1, if_pos (Or.inl (toList_inj a1))]
      · rw [if_neg a1]
        by_cases a2 : s.toList = [46]
        · rw [if_pos a2, if_pos (Or.inr (Or.inl (toList_inj a2)))]
        · rw [if_neg a2]
          by_cases a3 : s.toList = [46, 46]
          · rw [if_pos a3, if_pos (Or.inr (Or.inr (toList_inj a3)))]
          · rw [if_neg a3, if_neg (by
              rintro (q | q | q)
              · exact a1 (by rw [q, ByteArray.toList_eq])
              · exact a2 (by rw [q, ByteArray.toList_eq])
              · exact a3 (by rw [q, ByteArray.toList_eq]))]
            rfl
theorem refValid_is (s : ByteArray) : cambiumref14_Valid.f 100 s = some (validR s) := by
  unfold cambiumref14_Valid.f
  by_cases h20 : s.size > 20
  · rw [if_pos (by omega)]
    unfold validR
    rw [if_pos h20]
  · rw [if_neg (by omega)]
    exact Valid_l0 s h20 100 0 (Nat.zero_le _) (fun j hj => absurd hj (Nat.not_lt_zero _)) (by omega)
set_option maxHeartbeats 4000000 in
set_option maxRecDepth 100000 in
theorem NameValid_law (z0n : ByteArray) (w : World) (h0 : Aside0 (z0n.size ≤ maxLen)) (hL : Aside0 (laidMetH Tryd.prog Rows.nameValidRow.laid w)) (hS : Aside0 (w.ShapedOpen Tryd.prog)) :
    Calls Tryd.prog 3 #[.string z0n] w fun e w' => e = .returned (.bool true) ∧ Below w.heap.size w w' := by
  have K1 := Aside0.mk (shown14.st w (Tryd.laysM146.s1_3 w hS.out))
  have K3 := Aside0.mk (refValid_is z0n)
  clear h0 hL hS
  go_enter Tryd.func3, Tryd.ntmps3
  go_wp2_with fail
  refine K1.out.mono ?_
  rintro e w1 ⟨rfl, hb⟩
  have HB1 := Aside0.mk hb
  clear hb
  go_wp2_with fail
  refine (name_Valid.calls z0n w1).mono ?_
  rintro e w2 ⟨rfl, hb⟩
  have HB2 := Aside0.mk (below_step HB1.out hb)
  clear hb HB1
  go_wp2_with fail
  refine (cambiumref14_Valid.calls 100 z0n (validR z0n) w2 K3.out).mono ?_
  rintro e w3 ⟨rfl, hb⟩
  have HB3 := Aside0.mk (below_step HB2.out hb.below)
  clear hb HB2
  go_wp2_with fail
  go_ret
  exact ⟨rfl, HB3.out⟩
end Go.Proofs.YtafgfaimenccdaaDoor.P
