import Derived.Test.YtpahlfjfadammaaTakes
import Derived.Test.YtpahlfjfadammaaPx7
import Derived.Test.YtpahlfjfadammaaPx10
/-! What is taken has one form. -/
namespace Go.Proofs.Ytpahlfjfadammaa.NumLem
open Go.RowKit Go.Proofs.Ytpahlfjfadammaa.P Go.Proofs.YtpahlfjfadammaaW.PrintWords Go.Proofs.YtpahlfjfadammaaW.PrintLast
set_option linter.unusedVariables false
set_option linter.unusedSimpArgs false
theorem entry_form2 (k : Nat) (l : List Int) (hk : 8 ≤ k) (hb : Bytes l) (hl : l.length ≤ 1000) : ∃ r, inode_TakeEntry.f k l = some r ∧ (r = ((⟨#[]⟩ : ByteArray), 0, 0, 3) ∨ ∃ s x y, r = (s, x, y, 0) ∧ entryOk s x y ∧ entryRow s x y = l) := by
  obtain ⟨k, rfl⟩ : ∃ m, k = m + 1 := ⟨k - 1, by omega⟩
  have bad : ∀ (nm : ByteArray) (q : List Int), inode_TakeEntry.j0 (k + 1) nm q false = some ((⟨#[]⟩ : ByteArray), 0, 0, 3) := fun nm q => by simp [inode_TakeEntry.j0]
  unfold inode_TakeEntry.f
  rw [TakeText_is _ hb (by omega), Option.bind_some]
  by_cases hc : (takeR l 1).2.2 ≠ 0 ∨ ((takeR l 1).2.1.length : Int) < (takeR l 1).1
  · have e : takeRowR l 1 = ([], [], 2) := by unfold takeRowR; rw [if_pos hc]
    rw [e, takes_is (k + 1) [] [4, 1] (by simp; omega) (by simp) Bytes.nil (by simp), Option.bind_some]
    have e2 : (takesR [] [] [4, 1]).2 = false := takes2_no [] (by simp)
    rw [e2, if_neg (by decide), bad]
    exact ⟨_, rfl, Or.inl rfl⟩
  have h1 : 1 ≤ l.length := by
    by_cases h1 : 1 ≤ l.length
    · exact h1
    · have e1 := takeR_short l 1 (by omega) (by omega) (by omega)
      rw [show (((1 : Nat) : Int)) = 1 from rfl] at e1
      rw [e1] at hc
      simp at hc
  have e1 := takeR_ok l 1 (by omega) (by omega) (by omega)
  rw [show (((1 : Nat) : Int)) = 1 from rfl] at e1
  have er : takeRowR l 1 = ((l.drop 1).take (val (l.take 1)).toNat, (l.drop 1).drop (val (l.take 1)).toNat, 0) := by
    unfold takeRowR
    rw [if_neg hc, e1]
  rw [e1] at hc
  have hv := val_range (l.take 1) (hb.take 1)
  obtain ⟨v, hve⟩ : ∃ v : Nat, val (l.take 1) = v := ⟨(val (l.take 1)).toNat, by omega⟩
  rw [hve, Int.toNat_natCast] at er
  rw [hve] at hc
  have hvl : v ≤ (l.drop 1).length := by
    have : ¬ (((l.drop 1).length : Nat) : Int) < (v : Int) := fun h => hc (Or.inr h)
    omega
  have hbr : Bytes ((l.drop 1).drop v) := (hb.drop 1).drop v
  have hbx : Bytes ((l.drop 1).take v) := (hb.drop 1).take v
  rw [er, takes_is (k + 1) _ [4, 1] (by simp; omega) (by simp) hbr (by simp only [List.length_drop]; omega), Option.bind_some]
  by_cases h5 : ((l.drop 1).drop v).length = 5
  case neg =>
    rw [takes2_no _ h5, if_neg (by decide), bad]
    exact ⟨_, rfl, Or.inl rfl⟩
  rw [takes2_yes _ h5, if_pos rfl]
  have d0 := digits_val (l.take 1) (hb.take 1)
  rw [show (l.take 1).length = 1 by rw [List.length_take]; omega, hve] at d0
  have d1 := digits_val (((l.drop 1).drop v).take 4) (hbr.take 4)
  rw [show (((l.drop 1).drop v).take 4).length = 4 by rw [List.length_take]; omega] at d1
  have d2 := digits_val ((((l.drop 1).drop v).drop 4).take 1) ((hbr.drop 4).take 1)
  rw [show ((((l.drop 1).drop v).drop 4).take 1).length = 1 by rw [List.length_take, List.length_drop]; omega] at d2
  have hxl : ((l.drop 1).take v).length = v := by rw [List.length_take]; omega
  have hrow : entryRow (strOfNums ((l.drop 1).take v)) (val (((l.drop 1).drop v).take 4)) (val ((((l.drop 1).drop v).drop 4).take 1)) = l := by
    unfold entryRow
    rw [bytes_of _ hbx, hxl, d0, d1, d2]
    have e3 : (((l.drop 1).drop v).drop 4).take 1 = ((l.drop 1).drop v).drop 4 := List.take_of_length_le (by rw [List.length_drop]; omega)
    rw [e3, List.take_append_drop, List.take_append_drop, List.take_append_drop]
  have r0 : ∀ x y : Int, rd [x, y] 0 = x := fun _ _ => rfl
  have r1 : ∀ x y : Int, rd [x, y] 1 = y := fun _ _ => rfl
  have hl2 : ∀ x y : Int, (([x, y] : List Int).length : Int) = 2 := fun _ _ => rfl
  simp only [beq_self_eq_true, inode_TakeEntry.j0, if_true, hl2, r0, r1, Put_entry k _ _ _ (by omega), Option.bind_some]
  rw [if_pos (by omega), if_pos (by omega)]
  generalize strOfNums ((l.drop 1).take v) = s at *
  generalize val (((l.drop 1).drop v).take 4) = x at *
  generalize val ((((l.drop 1).drop v).drop 4).take 1) = y at *
  by_cases ho : entryOk s x y
  · have e : entryR s x y = (l, 0) := by unfold entryR; rw [if_pos ho, hrow]
    rw [e]
    exact ⟨(s, x, y, 0), rfl, Or.inr ⟨s, x, y, rfl, ho, hrow⟩⟩
  · have e : entryR s x y = ([], 1) := by unfold entryR; rw [if_neg ho]
    rw [e]
    exact ⟨_, rfl, Or.inl rfl⟩
theorem extent_form2 (k : Nat) (l : List Int) (hk : 9 ≤ k) (hb : Bytes l) (hl : l.length ≤ 1000) : ∃ r, inode_TakeExtent.f k l = some r ∧ r.1.length ≤ 1000 ∧ (r = ([], 0, 3) ∨ ∃ m a, r = (m, a, 0) ∧ Bytes m ∧ extentR m a = (l, 0)) := by
  obtain ⟨k, rfl⟩ : ∃ m, k = m + 1 := ⟨k - 1, by omega⟩
  unfold inode_TakeExtent.f
  cases l with
  | nil => exact ⟨([], 0, 3), by simp [inode_TakeExtent.j0], by simp, Or.inl rfl⟩
  | cons c m =>
    have hlen : (((c :: m).length : Nat) : Int) = (m.length : Int) + 1 := by simp
    have hr : rd (c :: m) 0 = c := rfl
    have hc := hb c (List.mem_cons_self ..)
    have hbm : Bytes m := fun x hx => hb x (List.mem_cons_of_mem _ hx)
    have hml : m.length ≤ 1000 := by simp at hl; omega
    have hd : (c :: m).drop 1 = m := rfl
    rw [hlen, if_neg (by omega), if_pos (by omega), hr]
    by_cases h1 : c > 1
    · exact ⟨([], 0, 3), by simp [inode_TakeExtent.j0, h1], by simp, Or.inl rfl⟩
    rw [decide_eq_false h1]
    simp only [inode_TakeExtent.j0]
    rw [if_neg (by decide), hlen, if_pos (by omega), hr, hd]
    by_cases h0 : c = 0
    · rw [if_pos h0, if_pos (by omega), if_pos (by simp; omega), Option.bind_some, List.nil_append, Put_extent k m 0 (by omega) hml, Option.bind_some]
      subst h0
      by_cases hm : 1 ≤ m.length ∧ m.length ≤ 24
      · have e : extentR m 0 = (0 :: m, 0) := by unfold extentR; rw [if_pos rfl, if_pos hm]
        rw [e]
        exact ⟨(m, 0, 0), rfl, hml, Or.inr ⟨m, 0, rfl, hbm, e⟩⟩
      · have e : extentR m 0 = ([], 1) := by unfold extentR; rw [if_pos rfl, if_neg hm]
        rw [e]
        exact ⟨([], 0, 3), rfl, by simp, Or.inl rfl⟩
    · have hc1 : c = 1 := by omega
      rw [if_neg h0, if_pos (by omega), takes_is k m [2] (by simp; omega) (by simp) hbm hml, Option.bind_some, takes1]
      by_cases h2 : m.length = 2
      · have hv := digits_val m hbm
        rw [h2] at hv
        simp only [if_pos h2]
        have hr1 : rd [val m] 0 = val m := rfl
        have hl1 : (([val m] : List Int).length : Int) = 1 := rfl
        rw [if_pos trivial, hl1, if_pos (by omega), hr1, Put_extent k [] (val m) (by omega) (by simp), Option.bind_some]
        by_cases hz : val m = 0
        · have e : extentR [] (val m) = ([], 1) := by unfold extentR; rw [if_pos hz, if_neg (by simp)]
          rw [e]
          exact ⟨([], 0, 3), rfl, by simp, Or.inl rfl⟩
        · by_cases ho : 1 ≤ val m ∧ val m ≤ 2047
          · have e : extentR [] (val m) = (c :: m, 0) := by unfold extentR; rw [if_neg hz, if_pos ⟨rfl, ho⟩, hv, hc1]
            rw [e]
            exact ⟨([], val m, 0), rfl, by simp, Or.inr ⟨[], val m, rfl, Bytes.nil, e⟩⟩
          · have e : extentR [] (val m) = ([], 1) := by unfold extentR; rw [if_neg hz, if_neg (fun q => ho q.2)]
            rw [e]
            exact ⟨([], 0, 3), rfl, by simp, Or.inl rfl⟩
      · simp only [if_neg h2]
        exact ⟨([], 0, 3), by simp, by simp, Or.inl rfl⟩
theorem entry_form (k : Nat) (l : List Int) (hk : 8 ≤ k) (hb : Bytes l) (hl : l.length ≤ 1000) : ∃ r, inode_TakeEntry.f k l = some r ∧ (r.2.2.2 = 0 → entryR r.1 r.2.1 r.2.2.1 = (l, 0)) := by
  obtain ⟨r, h, h2⟩ := entry_form2 k l hk hb hl
  refine ⟨r, h, fun h0 => ?_⟩
  rcases h2 with rfl | ⟨s, x, y, rfl, ho, hrow⟩
  · cases h0
  · unfold entryR
    rw [if_pos ho, hrow]
theorem extent_form (k : Nat) (l : List Int) (hk : 9 ≤ k) (hb : Bytes l) (hl : l.length ≤ 1000) : ∃ r, inode_TakeExtent.f k l = some r ∧ r.1.length ≤ 1000 ∧ (r.2.2 = 0 → extentR r.1 r.2.1 = (l, 0)) := by
  obtain ⟨r, h, h1, h2⟩ := extent_form2 k l hk hb hl
  refine ⟨r, h, h1, fun h0 => ?_⟩
  rcases h2 with rfl | ⟨m, a, rfl, _, he⟩
  · cases h0
  · exact he
end Go.Proofs.Ytpahlfjfadammaa.NumLem
