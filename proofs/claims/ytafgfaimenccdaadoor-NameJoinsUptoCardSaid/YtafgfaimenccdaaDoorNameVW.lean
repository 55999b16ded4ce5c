/- name.Valid, walked. -/
import Derived.Test.YtafgfaimenccdaaDoorNameV
import Derived.Test.YtafgfaimenccdaaDoorVStr
import Derived.Lib.OthersKept
import Derived.Test.YtafgfaimenccdaaDoorPx0
import Derived.LoopTactic
namespace Go.Proofs.YtafgfaimenccdaaDoor.P
open Go.RowKit Go.Proofs.YtafgfaimenccdaaDoorW.PrintWords Go.Proofs.YtafgfaimenccdaaDoorW.PrintLast
set_option linter.unusedVariables false
theorem below_iter_ (w : World) (s : ByteArray) (p : Nat) : Below w.heap.size w (w.iter s p) := (Below.refl _ _).alloc (Nat.le_refl _) _
theorem toList_inj {s : ByteArray} {l : List UInt8} (h : s.toList = l) : s = ⟨l.toArray⟩ := by
  rw [ByteArray.toList_eq] at h
  cases s with
  | mk d => rw [← h]
set_option maxHeartbeats 4000000 in
set_option maxRecDepth 100000 in
theorem name_Valid.calls (s : ByteArray) (w : World) :
    Calls Tryd.prog 11 #[.string s] w fun e w' => e = .returned (.int .i64 (validR s)) ∧ Below w.heap.size w w' := by
  by_cases h20 : s.size > 20
  · have d1 : decide ((s.size : Int) > 20) = true := decide_eq_true (by omega)
    have hv : validR s = 7 := by unfold validR; rw [if_pos h20]
    rw [hv]
    have HB := Aside0.mk (Below.refl w.heap.size w)
    clear h20 hv
    go_enter Tryd.func11, Tryd.ntmps11
    go_wp2
    go_ret
    exact ⟨rfl, HB.out⟩
  · have d1 : decide ((s.size : Int) > 20) = false := decide_eq_false (by omega)
    have d1' : decide (20 < s.size) = false := decide_eq_false (by omega)
    have HS := Aside0.mk (show s.size ≤ 20 by omega)
    have hv20 : ∀ (x : Int), (if s.size > 20 then (7 : Int) else x) = x := fun x => if_neg h20
    by_cases hd : s = ⟨#[]⟩ ∨ s = ⟨#[46]⟩ ∨ s = ⟨#[46, 46]⟩
    · have hv : validR s = 12 := by unfold validR; rw [hv20, if_pos hd]
      rw [hv]
      have HB := Aside0.mk (Below.refl w.heap.size w)
      clear h20 hv hv20 d1 d1'
      rcases hd with rfl | rfl | rfl
      · go_enter Tryd.func11, Tryd.ntmps11
        go_wp2
        go_ret
        exact ⟨rfl, HB.out⟩
      · go_enter Tryd.func11, Tryd.ntmps11
        go_wp2
        go_ret
        exact ⟨rfl, HB.out⟩
      · go_enter Tryd.func11, Tryd.ntmps11
        go_wp2
        go_ret
        exact ⟨rfl, HB.out⟩
    · have hne : s ≠ ⟨#[]⟩ ∧ s ≠ ⟨#[46]⟩ ∧ s ≠ ⟨#[46, 46]⟩ := ⟨fun q => hd (Or.inl q), fun q => hd (Or.inr (Or.inl q)), fun q => hd (Or.inr (Or.inr q))⟩
      obtain ⟨n1, n2, n3⟩ := hne
      have t1 : ¬ s.toList = [] := fun q => n1 (toList_inj q)
      have t2 : ¬ s.toList = [46] := fun q => n2 (toList_inj q)
      have t3 : ¬ s.toList = [46, 46] := fun q => n3 (toList_inj q)
      have e1 : s.toList.isEmpty = false := by cases hq : s.toList with
        | nil => exact absurd hq t1
        | cons => rfl
      have e2 : (s.toList == [46]) = false := beq_false_of_ne t2
      have e3 : (s.toList == [46, 46]) = false := beq_false_of_ne t3
      have HV := Aside0.mk (show validR s = if anyBad s then 12 else 0 by unfold validR; rw [hv20, if_neg hd])
      have HB := Aside0.mk (Below.refl w.heap.size w)
      clear h20 hv20 hd
      go_enter Tryd.func11, Tryd.ntmps11
      go_wp2_with fail
      go_loopw [4] (fun _ w' => ∃ pos : Nat, w' = w.iter s pos ∧ Aside0 (Clean s pos)) (fun _ w' => s.size - w'.iterPos w.heap.size)
      case atStart => exact ⟨0, rfl, ⟨fun j hj => absurd hj (Nat.not_lt_zero _)⟩⟩
      case round =>
        obtain ⟨pos, rfl, HC⟩ := hrel
        by_cases hp : pos < s.size
        · have hnx : ∀ ty, (Instr.next (.pointer (some ⟨w.heap.size, 0, none⟩)) true ty).run Tryd.prog (w.iter s pos) = _ := fun ty => run_next_any w s pos ty hp
          have hwd := width_pos s pos hp
          by_cases hb : (Utf8.decode s pos).1 = 0 ∨ (Utf8.decode s pos).1 = 47
          · have HR := Aside0.mk (show validR s = 12 by rw [HV.out, bad_rune hp hb]; rfl)
            rcases hb with hb | hb <;> rw [hb] at hnx
            all_goals
              clear hb hwd hp
              go_wp2
              go_ret
              exact ⟨by rw [HR.out]; rfl, below_iter_ w s _⟩
          · obtain ⟨c, hc⟩ : ∃ c, (Utf8.decode s pos).1 = c := ⟨_, rfl⟩
            have HC' := Aside0.mk (clean_step hp HC.out (fun q => hb (Or.inl q)) (fun q => hb (Or.inr q)))
            rw [hc] at hnx hb
            have h0 : ¬ c = 0 := fun q => hb (Or.inl q)
            have h47 : ¬ c = 47 := fun q => hb (Or.inr q)
            have z1 : decide ((c : Int) = 0) = false := decide_eq_false (by omega)
            have z2 : decide ((c : Int) = 47) = false := decide_eq_false (by omega)
            have z3 : ((c : Int) == 0) = false := beq_false_of_ne (by omega)
            have z4 : ((c : Int) == 47) = false := beq_false_of_ne (by omega)
            clear hb hc
            go_wp2
            go_roundw
            case rel => exact ⟨pos + (Utf8.decode s pos).2, rfl, HC'⟩
            case measure =>
              simp
              omega
        · have hnx : ∀ ty, (Instr.next (.pointer (some ⟨w.heap.size, 0, none⟩)) true ty).run Tryd.prog (w.iter s pos) = _ := fun ty => run_next_end w s pos ty hp
          have HR := Aside0.mk (show validR s = 0 by rw [HV.out, anyBad_no (fun j hj hjs => HC.out j (by omega) hjs)]; rfl)
          clear hp
          go_wp2
          go_ret
          exact ⟨by rw [HR.out]; rfl, below_iter_ w s _⟩
end Go.Proofs.YtafgfaimenccdaaDoor.P
