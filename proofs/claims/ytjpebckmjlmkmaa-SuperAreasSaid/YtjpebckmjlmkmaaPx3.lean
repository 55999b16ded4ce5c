/- Functions and contracts, written by a program (mkprint.py, a wrapper of ours around the print); texts between GIVEN marks are ours. -/
import Derived.Test.YtjpebckmjlmkmaaPx0
import Derived.Test.YtjpebckmjlmkmaaPx1
import Derived.Test.YtjpebckmjlmkmaaPx2
namespace Go.Proofs.Ytjpebckmjlmkmaa.P
open Go.RowKit Go.Proofs.YtjpebckmjlmkmaaW.PrintWords Go.Proofs.YtjpebckmjlmkmaaW.PrintLast Go.Proofs.YtjpebckmjlmkmaaW.PrintMore
attribute [local go_sem] max2_int min2_int max_two min_two max_three min_three max_four min_four   -- for this text's walks alone
set_option linter.unusedVariables false
set_option linter.unusedSimpArgs false

/-! ### cambiumref07_Label: function 18 -/
def cambiumref07_Label.l0 : Nat → ByteArray → Int → Option (Bool)
  | 0, _, _ => none
  | k + 1, x0, x3 => if x3 < (x0.size : Int) then (if 0 ≤ x3 then (if (bt x0 x3) < 97 then (if (bt x0 x3) < 48 then (if (bt x0 x3) = 45 then (cambiumref07_Label.l0 k x0 (wrap64 (x3 + 1))) else (some false)) else (if (bt x0 x3) > 57 then (if (bt x0 x3) = 45 then (cambiumref07_Label.l0 k x0 (wrap64 (x3 + 1))) else (some false)) else (cambiumref07_Label.l0 k x0 (wrap64 (x3 + 1))))) else (if (bt x0 x3) > 122 then (if (bt x0 x3) < 48 then (if (bt x0 x3) = 45 then (cambiumref07_Label.l0 k x0 (wrap64 (x3 + 1))) else (some false)) else (if (bt x0 x3) > 57 then (if (bt x0 x3) = 45 then (cambiumref07_Label.l0 k x0 (wrap64 (x3 + 1))) else (some false)) else (cambiumref07_Label.l0 k x0 (wrap64 (x3 + 1))))) else (cambiumref07_Label.l0 k x0 (wrap64 (x3 + 1))))) else (none)) else (if (x0.size : Int) ≥ 1 then (some (decide ((x0.size : Int) ≤ 10))) else (some false))
def cambiumref07_Label.f (k : Nat) (a0 : ByteArray) : Option (Bool) := cambiumref07_Label.l0 k a0 0
theorem cambiumref07_Label.mono_l : ∀ k, (∀ y0 y1, LeO (cambiumref07_Label.l0 k y0 y1) (cambiumref07_Label.l0 (k + 1) y0 y1))
  | 0 => fun _ _ r h => absurd (show none = some r from h) (by simp)
  | k + 1 => by
    have ih0 := cambiumref07_Label.mono_l k
    · intro y0 y1
      unfold cambiumref07_Label.l0
      repeat' first
      | (with_reducible exact ih0 _ _)
      | (with_reducible exact LeO.refl _)
      | (with_reducible exact LeO.none _)
      | (with_reducible refine LeO.ite ?_ ?_)
      | (with_reducible refine LeO.bind ?_ (fun _ => ?_))
      | exact ih0 _ _
      | exact LeO.none _
      | refine LeO.ite ?_ ?_
      | refine LeO.bind ?_ (fun _ => ?_)
theorem cambiumref07_Label.mono : ∀ a0 k, LeO (cambiumref07_Label.f k a0) (cambiumref07_Label.f (k + 1) a0) := by
  intro a0 k
  have ih0 := cambiumref07_Label.mono_l k
  unfold cambiumref07_Label.f
  repeat' first
      | (with_reducible exact ih0 _ _)
      | (with_reducible exact LeO.refl _)
      | (with_reducible exact LeO.none _)
      | (with_reducible refine LeO.ite ?_ ?_)
      | (with_reducible refine LeO.bind ?_ (fun _ => ?_))
      | exact ih0 _ _
      | exact LeO.none _
      | refine LeO.ite ?_ ?_
      | refine LeO.bind ?_ (fun _ => ?_)
set_option maxHeartbeats 8000000 in
set_option maxRecDepth 100000 in
theorem cambiumref07_Label.calls (k : Nat) (a0 : ByteArray) (r : Bool) (w : World) (h : cambiumref07_Label.f k a0 = some r) :
    Calls Try.prog 18 #[.string a0] w fun e w' => e = .returned (.bool r) ∧ Drawn0 w w' := by
  have H : (cambiumref07_Label.l0 k a0 0) = some r := h
  clear h
  have H' := Aside0.mk H
  clear H
  go_enter Try.func18, Try.ntmps18
  go_wp2
  go_loopg [3] k (fun kq v3 w' => ∃ (x3_1 : Int), v3 = .int .i64 x3_1 ∧ Aside0 (cambiumref07_Label.l0 kq a0 x3_1 = some r) ∧ Aside0 (kq ≤ k) ∧ Drawn0 w w')
  case atStart => exact ⟨(0), (by first | rfl | (simp; done) | (simp [*]; done)), H', ⟨Nat.le_refl _⟩, by repeat (first | exact Drawn0.refl _ | apply Drawn0.step)⟩
  case round =>
    clear H'
    try clear c1
    obtain ⟨x3_1, rfl, HA, HK1, ⟨m1, rfl⟩⟩ := hrel
    cases gk with
    | zero => exact absurd (show none = some _ from HA.out) (by simp)
    | succ k1 =>
      have H := HA.out
      clear HA
      simp only [cambiumref07_Label.l0] at H
      by_cases c2 : x3_1 < (a0.size : Int)
      · rw [if_pos c2] at H
        have c2b0 : decide (x3_1 < (a0.size : Int)) = true := decide_eq_true c2
        clear c2
        by_cases c3 : 0 ≤ x3_1
        · rw [if_pos c3] at H
          have c3b0 : decide (0 ≤ x3_1) = true := decide_eq_true c3
          clear c3
          by_cases c5 : (bt a0 x3_1) < 97
          · rw [if_pos c5] at H
            have c5b0 : decide ((bt a0 x3_1) < 97) = true := decide_eq_true c5
            clear c5
            by_cases c6 : (bt a0 x3_1) < 48
            · rw [if_pos c6] at H
              have c6b0 : decide ((bt a0 x3_1) < 48) = true := decide_eq_true c6
              clear c6
              by_cases c7 : (bt a0 x3_1) = 45
              · rw [if_pos c7] at H
                have c7b0 : ((bt a0 x3_1) == 45) = true := beq_iff_eq.mpr c7
                have c7b1 : ((bt a0 x3_1) != 45) = false := bne_eq_false_iff_eq.mpr c7
                clear c7
                have H' := Aside0.mk H
                clear H
                have p4 : 0 ≤ (x3_1 : Int) := of_decide_eq_true (by first | (with_reducible assumption) | assumption)
                have q4 : x3_1 < (a0.size : Int) := of_decide_eq_true (by first | (with_reducible assumption) | assumption)
                have hx4 := bt_at a0 x3_1
                replace p4 := eq_true p4
                replace q4 := eq_true q4
                go_wp2
                go_roundg k1
                case measure => have := HK1.out; omega
                case rel => exact ⟨(wrap64 (x3_1 + 1)), (by first | rfl | (simp; done) | (simp [*]; done)), H', ⟨by have := HK1.out; omega⟩, by repeat (first | exact Drawn0.refl _ | apply Drawn0.step)⟩
              · rw [if_neg c7] at H
                have c7b0 : ((bt a0 x3_1) == 45) = false := beq_eq_false_iff_ne.mpr c7
                have c7b1 : ((bt a0 x3_1) != 45) = true := bne_iff_ne.mpr c7
                obtain rfl := Option.some.inj H
                have p4 : 0 ≤ (x3_1 : Int) := of_decide_eq_true (by first | (with_reducible assumption) | assumption)
                have q4 : x3_1 < (a0.size : Int) := of_decide_eq_true (by first | (with_reducible assumption) | assumption)
                have hx4 := bt_at a0 x3_1
                replace p4 := eq_true p4
                replace q4 := eq_true q4
                go_wp2
                go_ret
                exact ⟨by first | rfl | (simp; done) | (simp [*]; done), by repeat (first | exact Drawn0.refl _ | apply Drawn0.step)⟩
            · rw [if_neg c6] at H
              have c6b0 : decide ((bt a0 x3_1) < 48) = false := decide_eq_false c6
              clear c6
              by_cases c8 : (bt a0 x3_1) > 57
              · rw [if_pos c8] at H
                have c8b0 : decide (57 < (bt a0 x3_1)) = true := decide_eq_true c8
                clear c8
                by_cases c9 : (bt a0 x3_1) = 45
                · rw [if_pos c9] at H
                  have c9b0 : ((bt a0 x3_1) == 45) = true := beq_iff_eq.mpr c9
                  have c9b1 : ((bt a0 x3_1) != 45) = false := bne_eq_false_iff_eq.mpr c9
                  clear c9
                  have H' := Aside0.mk H
                  clear H
                  have p4 : 0 ≤ (x3_1 : Int) := of_decide_eq_true (by first | (with_reducible assumption) | assumption)
                  have q4 : x3_1 < (a0.size : Int) := of_decide_eq_true (by first | (with_reducible assumption) | assumption)
                  have hx4 := bt_at a0 x3_1
                  replace p4 := eq_true p4
                  replace q4 := eq_true q4
                  go_wp2
                  go_roundg k1
                  case measure => have := HK1.out; omega
                  case rel => exact ⟨(wrap64 (x3_1 + 1)), (by first | rfl | (simp; done) | (simp [*]; done)), H', ⟨by have := HK1.out; omega⟩, by repeat (first | exact Drawn0.refl _ | apply Drawn0.step)⟩
                · rw [if_neg c9] at H
                  have c9b0 : ((bt a0 x3_1) == 45) = false := beq_eq_false_iff_ne.mpr c9
                  have c9b1 : ((bt a0 x3_1) != 45) = true := bne_iff_ne.mpr c9
                  obtain rfl := Option.some.inj H
                  have p4 : 0 ≤ (x3_1 : Int) := of_decide_eq_true (by first | (with_reducible assumption) | assumption)
                  have q4 : x3_1 < (a0.size : Int) := of_decide_eq_true (by first | (with_reducible assumption) | assumption)
                  have hx4 := bt_at a0 x3_1
                  replace p4 := eq_true p4
                  replace q4 := eq_true q4
                  go_wp2
                  go_ret
                  exact ⟨by first | rfl | (simp; done) | (simp [*]; done), by repeat (first | exact Drawn0.refl _ | apply Drawn0.step)⟩
              · rw [if_neg c8] at H
                have c8b0 : decide (57 < (bt a0 x3_1)) = false := decide_eq_false c8
                clear c8
                have H' := Aside0.mk H
                clear H
                have p4 : 0 ≤ (x3_1 : Int) := of_decide_eq_true (by first | (with_reducible assumption) | assumption)
                have q4 : x3_1 < (a0.size : Int) := of_decide_eq_true (by first | (with_reducible assumption) | assumption)
                have hx4 := bt_at a0 x3_1
                replace p4 := eq_true p4
                replace q4 := eq_true q4
                go_wp2
                go_roundg k1
                case measure => have := HK1.out; omega
                case rel => exact ⟨(wrap64 (x3_1 + 1)), (by first | rfl | (simp; done) | (simp [*]; done)), H', ⟨by have := HK1.out; omega⟩, by repeat (first | exact Drawn0.refl _ | apply Drawn0.step)⟩
          · rw [if_neg c5] at H
            have c5b0 : decide ((bt a0 x3_1) < 97) = false := decide_eq_false c5
            clear c5
            by_cases c10 : (bt a0 x3_1) > 122
            · rw [if_pos c10] at H
              have c10b0 : decide (122 < (bt a0 x3_1)) = true := decide_eq_true c10
              clear c10
              by_cases c11 : (bt a0 x3_1) < 48
              · rw [if_pos c11] at H
                have c11b0 : decide ((bt a0 x3_1) < 48) = true := decide_eq_true c11
                clear c11
                by_cases c12 : (bt a0 x3_1) = 45
                · rw [if_pos c12] at H
                  have c12b0 : ((bt a0 x3_1) == 45) = true := beq_iff_eq.mpr c12
                  have c12b1 : ((bt a0 x3_1) != 45) = false := bne_eq_false_iff_eq.mpr c12
                  clear c12
                  have H' := Aside0.mk H
                  clear H
                  have p4 : 0 ≤ (x3_1 : Int) := of_decide_eq_true (by first | (with_reducible assumption) | assumption)
                  have q4 : x3_1 < (a0.size : Int) := of_decide_eq_true (by first | (with_reducible assumption) | assumption)
                  have hx4 := bt_at a0 x3_1
                  replace p4 := eq_true p4
                  replace q4 := eq_true q4
                  go_wp2
                  go_roundg k1
                  case measure => have := HK1.out; omega
                  case rel => exact ⟨(wrap64 (x3_1 + 1)), (by first | rfl | (simp; done) | (simp [*]; done)), H', ⟨by have := HK1.out; omega⟩, by repeat (first | exact Drawn0.refl _ | apply Drawn0.step)⟩
                · rw [if_neg c12] at H
                  have c12b0 : ((bt a0 x3_1) == 45) = false := beq_eq_false_iff_ne.mpr c12
                  have c12b1 : ((bt a0 x3_1) != 45) = true := bne_iff_ne.mpr c12
                  obtain rfl := Option.some.inj H
                  have p4 : 0 ≤ (x3_1 : Int) := of_decide_eq_true (by first | (with_reducible assumption) | assumption)
                  have q4 : x3_1 < (a0.size : Int) := of_decide_eq_true (by first | (with_reducible assumption) | assumption)
                  have hx4 := bt_at a0 x3_1
                  replace p4 := eq_true p4
                  replace q4 := eq_true q4
                  go_wp2
                  go_ret
                  exact ⟨by first | rfl | (simp; done) | (simp [*]; done), by repeat (first | exact Drawn0.refl _ | apply Drawn0.step)⟩
              · rw [if_neg c11] at H
                have c11b0 : decide ((bt a0 x3_1) < 48) = false := decide_eq_false c11
                clear c11
                by_cases c13 : (bt a0 x3_1) > 57
                · rw [if_pos c13] at H
                  have c13b0 : decide (57 < (bt a0 x3_1)) = true := decide_eq_true c13
                  clear c13
                  by_cases c14 : (bt a0 x3_1) = 45
                  · rw [if_pos c14] at H
                    have c14b0 : ((bt a0 x3_1) == 45) = true := beq_iff_eq.mpr c14
                    have c14b1 : ((bt a0 x3_1) != 45) = false := bne_eq_false_iff_eq.mpr c14
                    clear c14
                    have H' := Aside0.mk H
                    clear H
                    have p4 : 0 ≤ (x3_1 : Int) := of_decide_eq_true (by first | (with_reducible assumption) | assumption)
                    have q4 : x3_1 < (a0.size : Int) := of_decide_eq_true (by first | (with_reducible assumption) | assumption)
                    have hx4 := bt_at a0 x3_1
                    replace p4 := eq_true p4
                    replace q4 := eq_true q4
                    go_wp2
                    go_roundg k1
                    case measure => have := HK1.out; omega
                    case rel => exact ⟨(wrap64 (x3_1 + 1)), (by first | rfl | (simp; done) | (simp [*]; done)), H', ⟨by have := HK1.out; omega⟩, by repeat (first | exact Drawn0.refl _ | apply Drawn0.step)⟩
                  · rw [if_neg c14] at H
                    have c14b0 : ((bt a0 x3_1) == 45) = false := beq_eq_false_iff_ne.mpr c14
                    have c14b1 : ((bt a0 x3_1) != 45) = true := bne_iff_ne.mpr c14
                    obtain rfl := Option.some.inj H
                    have p4 : 0 ≤ (x3_1 : Int) := of_decide_eq_true (by first | (with_reducible assumption) | assumption)
                    have q4 : x3_1 < (a0.size : Int) := of_decide_eq_true (by first | (with_reducible assumption) | assumption)
                    have hx4 := bt_at a0 x3_1
                    replace p4 := eq_true p4
                    replace q4 := eq_true q4
                    go_wp2
                    go_ret
                    exact ⟨by first | rfl | (simp; done) | (simp [*]; done), by repeat (first | exact Drawn0.refl _ | apply Drawn0.step)⟩
                · rw [if_neg c13] at H
                  have c13b0 : decide (57 < (bt a0 x3_1)) = false := decide_eq_false c13
                  clear c13
                  have H' := Aside0.mk H
                  clear H
                  have p4 : 0 ≤ (x3_1 : Int) := of_decide_eq_true (by first | (with_reducible assumption) | assumption)
                  have q4 : x3_1 < (a0.size : Int) := of_decide_eq_true (by first | (with_reducible assumption) | assumption)
                  have hx4 := bt_at a0 x3_1
                  replace p4 := eq_true p4
                  replace q4 := eq_true q4
                  go_wp2
                  go_roundg k1
                  case measure => have := HK1.out; omega
                  case rel => exact ⟨(wrap64 (x3_1 + 1)), (by first | rfl | (simp; done) | (simp [*]; done)), H', ⟨by have := HK1.out; omega⟩, by repeat (first | exact Drawn0.refl _ | apply Drawn0.step)⟩
            · rw [if_neg c10] at H
              have c10b0 : decide (122 < (bt a0 x3_1)) = false := decide_eq_false c10
              clear c10
              have H' := Aside0.mk H
              clear H
              have p4 : 0 ≤ (x3_1 : Int) := of_decide_eq_true (by first | (with_reducible assumption) | assumption)
              have q4 : x3_1 < (a0.size : Int) := of_decide_eq_true (by first | (with_reducible assumption) | assumption)
              have hx4 := bt_at a0 x3_1
              replace p4 := eq_true p4
              replace q4 := eq_true q4
              go_wp2
              go_roundg k1
              case measure => have := HK1.out; omega
              case rel => exact ⟨(wrap64 (x3_1 + 1)), (by first | rfl | (simp; done) | (simp [*]; done)), H', ⟨by have := HK1.out; omega⟩, by repeat (first | exact Drawn0.refl _ | apply Drawn0.step)⟩
        · rw [if_neg c3] at H
          exact absurd H (by simp)
      · rw [if_neg c2] at H
        have c2b0 : decide (x3_1 < (a0.size : Int)) = false := decide_eq_false c2
        clear c2
        by_cases c15 : (a0.size : Int) ≥ 1
        · rw [if_pos c15] at H
          have c15b0 : decide (1 ≤ (a0.size : Int)) = true := decide_eq_true c15
          have c15b1 : decide (1 ≤ a0.size) = true := decide_eq_true (by omega)
          clear c15
          obtain rfl := Option.some.inj H
          go_wp2
          go_ret
          exact ⟨by first | rfl | (simp; done) | (simp [*]; done), by repeat (first | exact Drawn0.refl _ | apply Drawn0.step)⟩
        · rw [if_neg c15] at H
          have c15b0 : decide (1 ≤ (a0.size : Int)) = false := decide_eq_false c15
          have c15b1 : decide (1 ≤ a0.size) = false := decide_eq_false (by omega)
          clear c15
          obtain rfl := Option.some.inj H
          go_wp2
          go_ret
          exact ⟨by first | rfl | (simp; done) | (simp [*]; done), by repeat (first | exact Drawn0.refl _ | apply Drawn0.step)⟩

/-! ### cambiumlaw07_SuperLabels: function 5 -/
def cambiumlaw07_SuperLabels.j0 : Nat → ByteArray → Bool → Int → Option (Bool)
  | 0, _, _, _ => none
  | k + 1, x0, x5, x6 => (super_Areas.f (wrap64 (32 + x6))).bind fun bt118 => ((cambiumref07_Areas.f k (wrap64 (32 + x6))).bind fun bt120 => (if x5 = true then ((super_Label.f k x0).bind fun t122 => ((cambiumref07_Label.f k x0).bind fun t123 => (if (t122 == t123) = true then (if bt118.1 = bt120.1 then (some (bt118.2 == bt120.2)) else (some false)) else (some false)))) else (some false)))
def cambiumlaw07_SuperLabels.f (k : Nat) (a0 : ByteArray) (a1 : Int) : Option (Bool) := (cambiumlaw07_shown.f).bind fun t117 => (if (Int.tmod a1 2017) < 0 then (cambiumlaw07_SuperLabels.j0 k a0 t117 (wrap64 (-(Int.tmod a1 2017)))) else (cambiumlaw07_SuperLabels.j0 k a0 t117 (Int.tmod a1 2017)))
theorem cambiumlaw07_SuperLabels.mono_l : ∀ k, (∀ y0 y1 y2, LeO (cambiumlaw07_SuperLabels.j0 k y0 y1 y2) (cambiumlaw07_SuperLabels.j0 (k + 1) y0 y1 y2))
  | 0 => fun _ _ _ r h => absurd (show none = some r from h) (by simp)
  | k + 1 => by
    have ih0 := cambiumlaw07_SuperLabels.mono_l k
    · intro y0 y1 y2
      unfold cambiumlaw07_SuperLabels.j0
      repeat' first
      | (with_reducible exact ih0 _ _ _)
      | (with_reducible exact cambiumref07_Areas.mono _ _)
      | (with_reducible exact cambiumref07_Label.mono _ _)
      | (with_reducible exact super_Label.mono _ _)
      | (with_reducible exact LeO.refl _)
      | (with_reducible exact LeO.none _)
      | (with_reducible refine LeO.ite ?_ ?_)
      | (with_reducible refine LeO.bind ?_ (fun _ => ?_))
      | exact ih0 _ _ _
      | exact cambiumref07_Areas.mono _ _
      | exact cambiumref07_Label.mono _ _
      | exact super_Label.mono _ _
      | exact LeO.none _
      | refine LeO.ite ?_ ?_
      | refine LeO.bind ?_ (fun _ => ?_)
theorem cambiumlaw07_SuperLabels.mono : ∀ a0 a1 k, LeO (cambiumlaw07_SuperLabels.f k a0 a1) (cambiumlaw07_SuperLabels.f (k + 1) a0 a1) := by
  intro a0 a1 k
  have ih0 := cambiumlaw07_SuperLabels.mono_l k
  unfold cambiumlaw07_SuperLabels.f
  repeat' first
      | (with_reducible exact ih0 _ _ _)
      | (with_reducible exact cambiumref07_Areas.mono _ _)
      | (with_reducible exact cambiumref07_Label.mono _ _)
      | (with_reducible exact super_Label.mono _ _)
      | (with_reducible exact LeO.refl _)
      | (with_reducible exact LeO.none _)
      | (with_reducible refine LeO.ite ?_ ?_)
      | (with_reducible refine LeO.bind ?_ (fun _ => ?_))
      | exact ih0 _ _ _
      | exact cambiumref07_Areas.mono _ _
      | exact cambiumref07_Label.mono _ _
      | exact super_Label.mono _ _
      | exact LeO.none _
      | refine LeO.ite ?_ ?_
      | refine LeO.bind ?_ (fun _ => ?_)
set_option maxHeartbeats 8000000 in
set_option maxRecDepth 100000 in
theorem cambiumlaw07_SuperLabels.calls (k : Nat) (a0 : ByteArray) (a1 : Int) (r : Bool) (w : World) (hr_ : Aside0 (r = true)) (h : cambiumlaw07_SuperLabels.f k a0 a1 = some r) :
    Calls Try.prog 5 #[.string a0, .int .i64 a1] w fun e w' => e = .returned (.bool r) ∧ Below w.heap.size w w' := by
  have HB := Aside0.mk (Below.refl w.heap.size w)
  have H : ((cambiumlaw07_shown.f).bind fun t117 => (if (Int.tmod a1 2017) < 0 then (cambiumlaw07_SuperLabels.j0 k a0 t117 (wrap64 (-(Int.tmod a1 2017)))) else (cambiumlaw07_SuperLabels.j0 k a0 t117 (Int.tmod a1 2017)))) = some r := h
  clear h
  replace H := Option.bind_eq_some_iff.mp H
  obtain ⟨t117, A30, H⟩ := H
  replace H : (if (Int.tmod a1 2017) < 0 then (cambiumlaw07_SuperLabels.j0 k a0 t117 (wrap64 (-(Int.tmod a1 2017)))) else (cambiumlaw07_SuperLabels.j0 k a0 t117 (Int.tmod a1 2017))) = some r := H
  have A3 := Aside0.mk A30
  clear A30
  have HC4 := Aside0.mk H
  clear H
  go_enter Try.func5, Try.ntmps5
  go_upto_if 15 with (first | ((with_reducible refine gate_callee (f := 10) rfl ?_); refine goesL_ (some 11) rfl rfl Try.func10 (by kernel_rfl) rfl #[] rfl (by (try simp only [List.map_toArray, List.map_cons, List.map_nil]); first | done | rfl | (simp only [List.length_drop, List.length_take]; rfl)) ?_; (with_reducible refine (cambiumlaw07_shown.calls  t117 _ A3.out).mono ?_); rintro e w5 ⟨rfl, hb⟩; refine ⟨_, rfl, ?_⟩; have n0_ := Aside0.mk (below_step (by repeat (first | (with_reducible first | exact HB.out | apply below_alloc | apply pw_below_drewN | apply below_drew1) | exact HB.out)) hb); clear HB; have HB := n0_; clear n0_; (try clear hb); (try clear hb2); (try clear hk); (try clear hi)))
  (try simp only [Act.put, List.setIfInBounds_toArray, List.set_cons_zero, List.set_cons_succ])
  go_cut [6] (fun v6 wc => ∃ (kq : Nat) (x6_3 : Int), v6 = .int .i64 x6_3 ∧ Aside0 (cambiumlaw07_SuperLabels.j0 kq a0 t117 x6_3 = some r) ∧ Aside0 (kq ≤ k) ∧ Aside0 (Below w.heap.size w wc))
  case first =>
    have H := HC4.out
    clear HC4
    by_cases c6 : (Int.tmod a1 2017) < 0
    · rw [if_pos c6] at H
      have c6b0 : decide ((Int.tmod a1 2017) < 0) = true := decide_eq_true c6
      clear c6
      (first | rw [c6b0] | (simp only [i64_w, i32_w]; rw [c6b0]) | skip)
      have H' := Aside0.mk H
      clear H
      go_wp2
      go_meet
      case rel => exact ⟨_, (wrap64 (-(Int.tmod a1 2017))), (by first | rfl | (simp; done) | (simp [*]; done)), H', ⟨by first | omega | exact Nat.le_refl _⟩, ⟨by repeat (first | (with_reducible first | exact HB.out | apply below_alloc | apply pw_below_drewN | apply below_drew1) | exact HB.out)⟩⟩
    · rw [if_neg c6] at H
      have c6b0 : decide ((Int.tmod a1 2017) < 0) = false := decide_eq_false c6
      clear c6
      (first | rw [c6b0] | (simp only [i64_w, i32_w]; rw [c6b0]) | skip)
      have H' := Aside0.mk H
      clear H
      go_wp2
      go_meet
      case rel => exact ⟨_, (Int.tmod a1 2017), (by first | rfl | (simp; done) | (simp [*]; done)), H', ⟨by first | omega | exact Nat.le_refl _⟩, ⟨by repeat (first | (with_reducible first | exact HB.out | apply below_alloc | apply pw_below_drewN | apply below_drew1) | exact HB.out)⟩⟩
  case rest =>
    clear HC4
    try clear c1
    try clear p2
    try clear c5
    try clear c6
    try clear c6b0
    try clear p6
    obtain ⟨kq, x6_3, rfl, HA, HJ3, HB⟩ := hcut
    cases kq with
    | zero => exact absurd (show none = some _ from HA.out) (by simp)
    | succ kj3 =>
      have H := HA.out
      clear HA
      simp only [cambiumlaw07_SuperLabels.j0] at H
      replace H := Option.bind_eq_some_iff.mp H
      obtain ⟨⟨t118, t119⟩, A70, H⟩ := H
      replace H : ((cambiumref07_Areas.f kj3 (wrap64 (32 + x6_3))).bind fun bt120 => (if t117 = true then ((super_Label.f kj3 a0).bind fun t122 => ((cambiumref07_Label.f kj3 a0).bind fun t123 => (if (t122 == t123) = true then (if t118 = bt120.1 then (some (t119 == bt120.2)) else (some false)) else (some false)))) else (some false))) = some r := H
      have A7 := Aside0.mk A70
      clear A70
      replace H := Option.bind_eq_some_iff.mp H
      obtain ⟨⟨t120, t121⟩, A80, H⟩ := H
      replace H : (if t117 = true then ((super_Label.f kj3 a0).bind fun t122 => ((cambiumref07_Label.f kj3 a0).bind fun t123 => (if (t122 == t123) = true then (if t118 = t120 then (some (t119 == t121)) else (some false)) else (some false)))) else (some false)) = some r := H
      have A8 := Aside0.mk A80
      clear A80
      by_cases c9 : t117 = true
      · subst c9
        have H1 : ((super_Label.f kj3 a0).bind fun t122 => ((cambiumref07_Label.f kj3 a0).bind fun t123 => (if (t122 == t123) = true then (if t118 = t120 then (some (t119 == t121)) else (some false)) else (some false)))) = some r := by rw [if_pos rfl] at H; exact H
        clear H
        have H := H1
        clear H1
        replace H := Option.bind_eq_some_iff.mp H
        obtain ⟨t122, A100, H⟩ := H
        replace H : ((cambiumref07_Label.f kj3 a0).bind fun t123 => (if (t122 == t123) = true then (if t118 = t120 then (some (t119 == t121)) else (some false)) else (some false))) = some r := H
        have A10 := Aside0.mk A100
        clear A100
        replace H := Option.bind_eq_some_iff.mp H
        obtain ⟨t123, A110, H⟩ := H
        replace H : (if (t122 == t123) = true then (if t118 = t120 then (some (t119 == t121)) else (some false)) else (some false)) = some r := H
        have A11 := Aside0.mk A110
        clear A110
        by_cases c12 : (t122 == t123) = true
        · rw [if_pos c12] at H
          have c12b0 : (t122 == t123) = true := c12
          (try (have c12b1 : decide (t122 = t123) = true := by simpa using c12))
          (try (have c12b2 : (t122 == t123) = true := by simpa using c12))
          clear c12
          by_cases c13 : t118 = t120
          · rw [if_pos c13] at H
            have c13b0 : (t118 == t120) = true := beq_iff_eq.mpr c13
            have c13b1 : (t118 != t120) = false := bne_eq_false_iff_eq.mpr c13
            clear c13
            obtain rfl := Option.some.inj H
            go_wp2_with (first | ((with_reducible refine gate_callee (f := 15) rfl ?_); refine goesL_ (some 21) rfl rfl Try.func15 (by kernel_rfl) rfl #[.int .i64 (wrap64 (32 + x6_3))] rfl (by (try simp only [List.map_toArray, List.map_cons, List.map_nil]); first | done | rfl | (simp only [List.length_drop, List.length_take]; rfl)) ?_; (with_reducible refine (super_Areas.calls (wrap64 (32 + x6_3)) t118 t119 _ A7.out).mono ?_); rintro e w' ⟨rfl, ⟨nd, rfl⟩⟩; refine ⟨_, rfl, ?_⟩) | ((with_reducible refine gate_callee (f := 16) rfl ?_); refine goesL_ (some 27) rfl rfl Try.func16 (by kernel_rfl) rfl #[.int .i64 (wrap64 (32 + x6_3))] rfl (by (try simp only [List.map_toArray, List.map_cons, List.map_nil]); first | done | rfl | (simp only [List.length_drop, List.length_take]; rfl)) ?_; (with_reducible refine (cambiumref07_Areas.calls kj3 (wrap64 (32 + x6_3)) t120 t121 _ A8.out).mono ?_); rintro e w' ⟨rfl, ⟨nd, rfl⟩⟩; refine ⟨_, rfl, ?_⟩) | (go_at_call 17; (with_reducible refine (super_Label.calls kj3 a0 t122 _ A10.out).mono ?_); rintro e w14 ⟨rfl, hb⟩; have n0_ := Aside0.mk (below_step (by repeat (first | (with_reducible first | exact HB.out | apply below_alloc | apply pw_below_drewN | apply below_drew1) | exact HB.out)) hb); clear HB; have HB := n0_; clear n0_; (try clear hb); (try clear hb2); (try clear hk); (try clear hi)) | (go_at_call 18; (with_reducible refine (cambiumref07_Label.calls kj3 a0 t123 _ A11.out).mono ?_); rintro e w' ⟨rfl, ⟨nd, rfl⟩⟩))
            go_ret
            exact ⟨by first | rfl | (simp [errW_none, errW_some] <;> rfl) | (simp [*, errW_none, errW_some] <;> rfl), by repeat (first | (with_reducible first | exact HB.out | apply below_alloc | apply pw_below_drewN | apply below_drew1) | exact HB.out)⟩
          · rw [if_neg c13] at H
            have c13b0 : (t118 == t120) = false := beq_eq_false_iff_ne.mpr c13
            have c13b1 : (t118 != t120) = true := bne_iff_ne.mpr c13
            exact absurd (Option.some.inj H) (by rw [hr_.out]; decide)
        · rw [if_neg c12] at H
          have c12b0 : (t122 == t123) = false := by simpa using c12
          (try (have c12b1 : decide (t122 = t123) = false := by simpa using c12))
          (try (have c12b2 : (t122 == t123) = false := by simpa using c12))
          (try (have c12b3 : ¬ (t122 = t123) := by simpa using c12))
          clear c12
          exact absurd (Option.some.inj H) (by rw [hr_.out]; decide)
      · replace c9 := Bool.eq_false_iff.mpr c9
        subst c9
        have H1 : (some false) = some r := by rw [if_neg (show ¬ (false = true) by decide)] at H; exact H
        clear H
        have H := H1
        clear H1
        exact absurd (Option.some.inj H) (by rw [hr_.out]; decide)

/-- THE ONE PURE STATEMENT of cambiumlaw07_SuperLabels: yours. -/
def cambiumlaw07_SuperLabels.Pure : Prop := ∀ (a0 : ByteArray) (a1 : Int), a0.size ≤ 140737488351232 → (Lit.int .i64 a1).wf = true → ∃ k, cambiumlaw07_SuperLabels.f k a0 a1 = some true
theorem cambiumlaw07_SuperLabels.walk (P : cambiumlaw07_SuperLabels.Pure) (a0 : ByteArray) (a1 : Int) (w : World) (w0 : a0.size ≤ 140737488351232) (w1 : (Lit.int .i64 a1).wf = true) :
    Calls Try.prog 5 #[.string a0, .int .i64 a1] w fun e w' => e = .returned (.bool true) ∧ Below w.heap.size w w' := by
  obtain ⟨k, h⟩ := P a0 a1 w0 w1
  refine (cambiumlaw07_SuperLabels.calls k a0 a1 true w ⟨rfl⟩ h).mono ?_
  rintro e w' ⟨rfl, hd⟩
  exact ⟨rfl, hd⟩

/-! ### cambiumlaw07_SuperAreas: function 6 -/
def cambiumlaw07_SuperAreas.f (a0 : Int) : Option (Bool) := (cambiumlaw07_shown.f).bind fun t124 => (if (Int.tmod a0 2017) < 0 then ((super_Areas.f (wrap64 (32 + (wrap64 (-(Int.tmod a0 2017)))))).bind fun bt125 => (if t124 = true then (if (wrap64 (bt125.1 * 118)) ≥ (wrap64 (32 + (wrap64 (-(Int.tmod a0 2017))))) then (if (wrap64 ((wrap64 (bt125.1 - 1)) * 118)) < (wrap64 (32 + (wrap64 (-(Int.tmod a0 2017))))) then (if bt125.2 = (wrap64 (2 + (wrap64 (2 * bt125.1)))) then (some (decide (bt125.2 < (wrap64 (32 + (wrap64 (-(Int.tmod a0 2017)))))))) else (some false)) else (some false)) else (some false)) else (some false))) else ((super_Areas.f (wrap64 (32 + (Int.tmod a0 2017)))).bind fun bt127 => (if t124 = true then (if (wrap64 (bt127.1 * 118)) ≥ (wrap64 (32 + (Int.tmod a0 2017))) then (if (wrap64 ((wrap64 (bt127.1 - 1)) * 118)) < (wrap64 (32 + (Int.tmod a0 2017))) then (if bt127.2 = (wrap64 (2 + (wrap64 (2 * bt127.1)))) then (some (decide (bt127.2 < (wrap64 (32 + (Int.tmod a0 2017)))))) else (some false)) else (some false)) else (some false)) else (some false))))
set_option maxHeartbeats 8000000 in
set_option maxRecDepth 100000 in
theorem cambiumlaw07_SuperAreas.calls (a0 : Int) (r : Bool) (w : World) (hr_ : Aside0 (r = true)) (h : cambiumlaw07_SuperAreas.f a0 = some r) :
    Calls Try.prog 6 #[.int .i64 a0] w fun e w' => e = .returned (.bool r) ∧ Below w.heap.size w w' := by
  have HB := Aside0.mk (Below.refl w.heap.size w)
  have H : ((cambiumlaw07_shown.f).bind fun t124 => (if (Int.tmod a0 2017) < 0 then ((super_Areas.f (wrap64 (32 + (wrap64 (-(Int.tmod a0 2017)))))).bind fun bt125 => (if t124 = true then (if (wrap64 (bt125.1 * 118)) ≥ (wrap64 (32 + (wrap64 (-(Int.tmod a0 2017))))) then (if (wrap64 ((wrap64 (bt125.1 - 1)) * 118)) < (wrap64 (32 + (wrap64 (-(Int.tmod a0 2017))))) then (if bt125.2 = (wrap64 (2 + (wrap64 (2 * bt125.1)))) then (some (decide (bt125.2 < (wrap64 (32 + (wrap64 (-(Int.tmod a0 2017)))))))) else (some false)) else (some false)) else (some false)) else (some false))) else ((super_Areas.f (wrap64 (32 + (Int.tmod a0 2017)))).bind fun bt127 => (if t124 = true then (if (wrap64 (bt127.1 * 118)) ≥ (wrap64 (32 + (Int.tmod a0 2017))) then (if (wrap64 ((wrap64 (bt127.1 - 1)) * 118)) < (wrap64 (32 + (Int.tmod a0 2017))) then (if bt127.2 = (wrap64 (2 + (wrap64 (2 * bt127.1)))) then (some (decide (bt127.2 < (wrap64 (32 + (Int.tmod a0 2017)))))) else (some false)) else (some false)) else (some false)) else (some false))))) = some r := h
  clear h
  replace H := Option.bind_eq_some_iff.mp H
  obtain ⟨t124, A20, H⟩ := H
  replace H : (if (Int.tmod a0 2017) < 0 then ((super_Areas.f (wrap64 (32 + (wrap64 (-(Int.tmod a0 2017)))))).bind fun bt125 => (if t124 = true then (if (wrap64 (bt125.1 * 118)) ≥ (wrap64 (32 + (wrap64 (-(Int.tmod a0 2017))))) then (if (wrap64 ((wrap64 (bt125.1 - 1)) * 118)) < (wrap64 (32 + (wrap64 (-(Int.tmod a0 2017))))) then (if bt125.2 = (wrap64 (2 + (wrap64 (2 * bt125.1)))) then (some (decide (bt125.2 < (wrap64 (32 + (wrap64 (-(Int.tmod a0 2017)))))))) else (some false)) else (some false)) else (some false)) else (some false))) else ((super_Areas.f (wrap64 (32 + (Int.tmod a0 2017)))).bind fun bt127 => (if t124 = true then (if (wrap64 (bt127.1 * 118)) ≥ (wrap64 (32 + (Int.tmod a0 2017))) then (if (wrap64 ((wrap64 (bt127.1 - 1)) * 118)) < (wrap64 (32 + (Int.tmod a0 2017))) then (if bt127.2 = (wrap64 (2 + (wrap64 (2 * bt127.1)))) then (some (decide (bt127.2 < (wrap64 (32 + (Int.tmod a0 2017)))))) else (some false)) else (some false)) else (some false)) else (some false)))) = some r := H
  have A2 := Aside0.mk A20
  clear A20
  by_cases c3 : (Int.tmod a0 2017) < 0
  · rw [if_pos c3] at H
    have c3b0 : decide ((Int.tmod a0 2017) < 0) = true := decide_eq_true c3
    clear c3
    replace H := Option.bind_eq_some_iff.mp H
    obtain ⟨⟨t125, t126⟩, A40, H⟩ := H
    replace H : (if t124 = true then (if (wrap64 (t125 * 118)) ≥ (wrap64 (32 + (wrap64 (-(Int.tmod a0 2017))))) then (if (wrap64 ((wrap64 (t125 - 1)) * 118)) < (wrap64 (32 + (wrap64 (-(Int.tmod a0 2017))))) then (if t126 = (wrap64 (2 + (wrap64 (2 * t125)))) then (some (decide (t126 < (wrap64 (32 + (wrap64 (-(Int.tmod a0 2017)))))))) else (some false)) else (some false)) else (some false)) else (some false)) = some r := H
    have A4 := Aside0.mk A40
    clear A40
    by_cases c5 : t124 = true
    · subst c5
      have H1 : (if (wrap64 (t125 * 118)) ≥ (wrap64 (32 + (wrap64 (-(Int.tmod a0 2017))))) then (if (wrap64 ((wrap64 (t125 - 1)) * 118)) < (wrap64 (32 + (wrap64 (-(Int.tmod a0 2017))))) then (if t126 = (wrap64 (2 + (wrap64 (2 * t125)))) then (some (decide (t126 < (wrap64 (32 + (wrap64 (-(Int.tmod a0 2017)))))))) else (some false)) else (some false)) else (some false)) = some r := by rw [if_pos rfl] at H; exact H
      clear H
      have H := H1
      clear H1
      by_cases c6 : (wrap64 (t125 * 118)) ≥ (wrap64 (32 + (wrap64 (-(Int.tmod a0 2017)))))
      · rw [if_pos c6] at H
        have c6b0 : decide ((wrap64 (32 + (wrap64 (-(Int.tmod a0 2017))))) ≤ (wrap64 (t125 * 118))) = true := decide_eq_true c6
        clear c6
        by_cases c7 : (wrap64 ((wrap64 (t125 - 1)) * 118)) < (wrap64 (32 + (wrap64 (-(Int.tmod a0 2017)))))
        · rw [if_pos c7] at H
          have c7b0 : decide ((wrap64 ((wrap64 (t125 - 1)) * 118)) < (wrap64 (32 + (wrap64 (-(Int.tmod a0 2017)))))) = true := decide_eq_true c7
          clear c7
          by_cases c8 : t126 = (wrap64 (2 + (wrap64 (2 * t125))))
          · rw [if_pos c8] at H
            have c8b0 : (t126 == (wrap64 (2 + (wrap64 (2 * t125))))) = true := beq_iff_eq.mpr c8
            have c8b1 : (t126 != (wrap64 (2 + (wrap64 (2 * t125))))) = false := bne_eq_false_iff_eq.mpr c8
            clear c8
            obtain rfl := Option.some.inj H
            go_enter Try.func6, Try.ntmps6
            go_wp2_with (first | ((with_reducible refine gate_callee (f := 10) rfl ?_); refine goesL_ (some 8) rfl rfl Try.func10 (by kernel_rfl) rfl #[] rfl (by (try simp only [List.map_toArray, List.map_cons, List.map_nil]); first | done | rfl | (simp only [List.length_drop, List.length_take]; rfl)) ?_; (with_reducible refine (cambiumlaw07_shown.calls  true _ A2.out).mono ?_); rintro e w9 ⟨rfl, hb⟩; refine ⟨_, rfl, ?_⟩; have n0_ := Aside0.mk (below_step (by repeat (first | (with_reducible first | exact HB.out | apply below_alloc | apply pw_below_drewN | apply below_drew1) | exact HB.out)) hb); clear HB; have HB := n0_; clear n0_; (try clear hb); (try clear hb2); (try clear hk); (try clear hi)) | ((with_reducible refine gate_callee (f := 15) rfl ?_); refine goesL_ (some 19) rfl rfl Try.func15 (by kernel_rfl) rfl #[.int .i64 (wrap64 (32 + (wrap64 (-(Int.tmod a0 2017)))))] rfl (by (try simp only [List.map_toArray, List.map_cons, List.map_nil]); first | done | rfl | (simp only [List.length_drop, List.length_take]; rfl)) ?_; (with_reducible refine (super_Areas.calls (wrap64 (32 + (wrap64 (-(Int.tmod a0 2017))))) t125 t126 _ A4.out).mono ?_); rintro e w' ⟨rfl, ⟨nd, rfl⟩⟩; refine ⟨_, rfl, ?_⟩))
            go_ret
            exact ⟨by first | rfl | (simp [errW_none, errW_some] <;> rfl) | (simp [*, errW_none, errW_some] <;> rfl), by repeat (first | (with_reducible first | exact HB.out | apply below_alloc | apply pw_below_drewN | apply below_drew1) | exact HB.out)⟩
          · rw [if_neg c8] at H
            have c8b0 : (t126 == (wrap64 (2 + (wrap64 (2 * t125))))) = false := beq_eq_false_iff_ne.mpr c8
            have c8b1 : (t126 != (wrap64 (2 + (wrap64 (2 * t125))))) = true := bne_iff_ne.mpr c8
            exact absurd (Option.some.inj H) (by rw [hr_.out]; decide)
        · rw [if_neg c7] at H
          have c7b0 : decide ((wrap64 ((wrap64 (t125 - 1)) * 118)) < (wrap64 (32 + (wrap64 (-(Int.tmod a0 2017)))))) = false := decide_eq_false c7
          clear c7
          exact absurd (Option.some.inj H) (by rw [hr_.out]; decide)
      · rw [if_neg c6] at H
        have c6b0 : decide ((wrap64 (32 + (wrap64 (-(Int.tmod a0 2017))))) ≤ (wrap64 (t125 * 118))) = false := decide_eq_false c6
        clear c6
        exact absurd (Option.some.inj H) (by rw [hr_.out]; decide)
    · replace c5 := Bool.eq_false_iff.mpr c5
      subst c5
      have H1 : (some false) = some r := by rw [if_neg (show ¬ (false = true) by decide)] at H; exact H
      clear H
      have H := H1
      clear H1
      exact absurd (Option.some.inj H) (by rw [hr_.out]; decide)
  · rw [if_neg c3] at H
    have c3b0 : decide ((Int.tmod a0 2017) < 0) = false := decide_eq_false c3
    clear c3
    replace H := Option.bind_eq_some_iff.mp H
    obtain ⟨⟨t127, t128⟩, A100, H⟩ := H
    replace H : (if t124 = true then (if (wrap64 (t127 * 118)) ≥ (wrap64 (32 + (Int.tmod a0 2017))) then (if (wrap64 ((wrap64 (t127 - 1)) * 118)) < (wrap64 (32 + (Int.tmod a0 2017))) then (if t128 = (wrap64 (2 + (wrap64 (2 * t127)))) then (some (decide (t128 < (wrap64 (32 + (Int.tmod a0 2017)))))) else (some false)) else (some false)) else (some false)) else (some false)) = some r := H
    have A10 := Aside0.mk A100
    clear A100
    by_cases c11 : t124 = true
    · subst c11
      have H1 : (if (wrap64 (t127 * 118)) ≥ (wrap64 (32 + (Int.tmod a0 2017))) then (if (wrap64 ((wrap64 (t127 - 1)) * 118)) < (wrap64 (32 + (Int.tmod a0 2017))) then (if t128 = (wrap64 (2 + (wrap64 (2 * t127)))) then (some (decide (t128 < (wrap64 (32 + (Int.tmod a0 2017)))))) else (some false)) else (some false)) else (some false)) = some r := by rw [if_pos rfl] at H; exact H
      clear H
      have H := H1
      clear H1
      by_cases c12 : (wrap64 (t127 * 118)) ≥ (wrap64 (32 + (Int.tmod a0 2017)))
      · rw [if_pos c12] at H
        have c12b0 : decide ((wrap64 (32 + (Int.tmod a0 2017))) ≤ (wrap64 (t127 * 118))) = true := decide_eq_true c12
        clear c12
        by_cases c13 : (wrap64 ((wrap64 (t127 - 1)) * 118)) < (wrap64 (32 + (Int.tmod a0 2017)))
        · rw [if_pos c13] at H
          have c13b0 : decide ((wrap64 ((wrap64 (t127 - 1)) * 118)) < (wrap64 (32 + (Int.tmod a0 2017)))) = true := decide_eq_true c13
          clear c13
          by_cases c14 : t128 = (wrap64 (2 + (wrap64 (2 * t127))))
          · rw [if_pos c14] at H
            have c14b0 : (t128 == (wrap64 (2 + (wrap64 (2 * t127))))) = true := beq_iff_eq.mpr c14
            have c14b1 : (t128 != (wrap64 (2 + (wrap64 (2 * t127))))) = false := bne_eq_false_iff_eq.mpr c14
            clear c14
            obtain rfl := Option.some.inj H
            go_enter Try.func6, Try.ntmps6
            go_wp2_with (first | ((with_reducible refine gate_callee (f := 10) rfl ?_); refine goesL_ (some 8) rfl rfl Try.func10 (by kernel_rfl) rfl #[] rfl (by (try simp only [List.map_toArray, List.map_cons, List.map_nil]); first | done | rfl | (simp only [List.length_drop, List.length_take]; rfl)) ?_; (with_reducible refine (cambiumlaw07_shown.calls  true _ A2.out).mono ?_); rintro e w15 ⟨rfl, hb⟩; refine ⟨_, rfl, ?_⟩; have n0_ := Aside0.mk (below_step (by repeat (first | (with_reducible first | exact HB.out | apply below_alloc | apply pw_below_drewN | apply below_drew1) | exact HB.out)) hb); clear HB; have HB := n0_; clear n0_; (try clear hb); (try clear hb2); (try clear hk); (try clear hi)) | ((with_reducible refine gate_callee (f := 15) rfl ?_); refine goesL_ (some 19) rfl rfl Try.func15 (by kernel_rfl) rfl #[.int .i64 (wrap64 (32 + (Int.tmod a0 2017)))] rfl (by (try simp only [List.map_toArray, List.map_cons, List.map_nil]); first | done | rfl | (simp only [List.length_drop, List.length_take]; rfl)) ?_; (with_reducible refine (super_Areas.calls (wrap64 (32 + (Int.tmod a0 2017))) t127 t128 _ A10.out).mono ?_); rintro e w' ⟨rfl, ⟨nd, rfl⟩⟩; refine ⟨_, rfl, ?_⟩))
            go_ret
            exact ⟨by first | rfl | (simp [errW_none, errW_some] <;> rfl) | (simp [*, errW_none, errW_some] <;> rfl), by repeat (first | (with_reducible first | exact HB.out | apply below_alloc | apply pw_below_drewN | apply below_drew1) | exact HB.out)⟩
          · rw [if_neg c14] at H
            have c14b0 : (t128 == (wrap64 (2 + (wrap64 (2 * t127))))) = false := beq_eq_false_iff_ne.mpr c14
            have c14b1 : (t128 != (wrap64 (2 + (wrap64 (2 * t127))))) = true := bne_iff_ne.mpr c14
            exact absurd (Option.some.inj H) (by rw [hr_.out]; decide)
        · rw [if_neg c13] at H
          have c13b0 : decide ((wrap64 ((wrap64 (t127 - 1)) * 118)) < (wrap64 (32 + (Int.tmod a0 2017)))) = false := decide_eq_false c13
          clear c13
          exact absurd (Option.some.inj H) (by rw [hr_.out]; decide)
      · rw [if_neg c12] at H
        have c12b0 : decide ((wrap64 (32 + (Int.tmod a0 2017))) ≤ (wrap64 (t127 * 118))) = false := decide_eq_false c12
        clear c12
        exact absurd (Option.some.inj H) (by rw [hr_.out]; decide)
    · replace c11 := Bool.eq_false_iff.mpr c11
      subst c11
      have H1 : (some false) = some r := by rw [if_neg (show ¬ (false = true) by decide)] at H; exact H
      clear H
      have H := H1
      clear H1
      exact absurd (Option.some.inj H) (by rw [hr_.out]; decide)

/-- THE ONE PURE STATEMENT of cambiumlaw07_SuperAreas: yours. -/
def cambiumlaw07_SuperAreas.Pure : Prop := ∀ (a0 : Int), (Lit.int .i64 a0).wf = true → cambiumlaw07_SuperAreas.f a0 = some true
theorem cambiumlaw07_SuperAreas.walk (P : cambiumlaw07_SuperAreas.Pure) (a0 : Int) (w : World) (w0 : (Lit.int .i64 a0).wf = true) :
    Calls Try.prog 6 #[.int .i64 a0] w fun e w' => e = .returned (.bool true) ∧ Below w.heap.size w w' := by
  have h := P a0 w0
  refine (cambiumlaw07_SuperAreas.calls a0 true w ⟨rfl⟩ h).mono ?_
  rintro e w' ⟨rfl, hd⟩
  exact ⟨rfl, hd⟩

end Go.Proofs.Ytjpebckmjlmkmaa.P
