/- Functions and contracts, written by a program (mkprint.py, a wrapper of ours around the print); texts between GIVEN marks are ours. -/
import Derived.Test.YtcjnknpbikfimaaPx0
namespace Go.Proofs.Ytcjnknpbikfimaa.P
open Go.RowKit Go.Proofs.YtcjnknpbikfimaaW.PrintWords Go.Proofs.YtcjnknpbikfimaaW.PrintLast Go.Proofs.YtcjnknpbikfimaaW.PrintMore
attribute [local go_sem] max2_int min2_int max_two min_two max_three min_three max_four min_four   -- for this text's walks alone
set_option linter.unusedVariables false
set_option linter.unusedSimpArgs false

/-! ### cambiumref02_More: function 66 -/
mutual
def cambiumref02_More.l0 : Nat → List Int → Int → Int → Option (Int)
 | 0, _, _, _ => none
 | k + 1, x1, x5, x6 => if x6 < (x1.length : Int) then (if 0 ≤ x6 then (cambiumref02_More.l1 k x1 (Go.bits .xor .u32 x5 ((rd x1 x6) % 4294967296)) x6 0) else (none)) else (some (Go.bits .xor .u32 x5 4294967295))
def cambiumref02_More.l1 : Nat → List Int → Int → Int → Int → Option (Int)
 | 0, _, _, _, _ => none
 | k + 1, x1, x5, x6, x7 => if x7 < 8 then (if (Int.tmod x5 2) = 1 then (cambiumref02_More.l1 k x1 (Go.bits .xor .u32 ((Int.tdiv x5 2) % 4294967296) 2197175160) x6 (wrap64 (x7 + 1))) else (cambiumref02_More.l1 k x1 ((Int.tdiv x5 2) % 4294967296) x6 (wrap64 (x7 + 1)))) else (cambiumref02_More.l0 k x1 x5 (wrap64 (x6 + 1)))
end
def cambiumref02_More.f (k : Nat) (a0 : Int) (l1 : List Int) : Option (Int) := cambiumref02_More.l0 k l1 (Go.bits .xor .u32 a0 4294967295) 0
theorem cambiumref02_More.mono_l : ∀ k, (∀ y0 y1 y2, LeO (cambiumref02_More.l0 k y0 y1 y2) (cambiumref02_More.l0 (k + 1) y0 y1 y2)) ∧ (∀ y0 y1 y2 y3, LeO (cambiumref02_More.l1 k y0 y1 y2 y3) (cambiumref02_More.l1 (k + 1) y0 y1 y2 y3))
 | 0 => ⟨fun _ _ _ r h => by simp [cambiumref02_More.l0] at h, fun _ _ _ _ r h => by simp [cambiumref02_More.l1] at h⟩
 | k + 1 => by
  obtain ⟨ih0, ih1⟩ := cambiumref02_More.mono_l k
  refine ⟨?_, ?_⟩
  ·intro y0 y1 y2
   unfold cambiumref02_More.l0
   repeat' first
   | (with_reducible exact ih0 _ _ _)
   | (with_reducible exact ih1 _ _ _ _)
   | (with_reducible exact LeO.refl _)
   | (with_reducible exact LeO.none _)
   | (with_reducible refine LeO.ite ?_ ?_)
   | (with_reducible refine LeO.bind ?_ (fun _ => ?_))
   | exact ih0 _ _ _
   | exact ih1 _ _ _ _
   | exact LeO.none _
   | refine LeO.ite ?_ ?_
   | refine LeO.bind ?_ (fun _ => ?_)
  ·intro y0 y1 y2 y3
   unfold cambiumref02_More.l1
   repeat' first
   | (with_reducible exact ih0 _ _ _)
   | (with_reducible exact ih1 _ _ _ _)
   | (with_reducible exact LeO.refl _)
   | (with_reducible exact LeO.none _)
   | (with_reducible refine LeO.ite ?_ ?_)
   | (with_reducible refine LeO.bind ?_ (fun _ => ?_))
   | exact ih0 _ _ _
   | exact ih1 _ _ _ _
   | exact LeO.none _
   | refine LeO.ite ?_ ?_
   | refine LeO.bind ?_ (fun _ => ?_)
theorem cambiumref02_More.mono : ∀ a0 a1 k, LeO (cambiumref02_More.f k a0 a1) (cambiumref02_More.f (k + 1) a0 a1) := by
 intro a0 a1 k
 obtain ⟨ih0, ih1⟩ := cambiumref02_More.mono_l k
 unfold cambiumref02_More.f
 repeat' first
   | (with_reducible exact ih0 _ _ _)
   | (with_reducible exact ih1 _ _ _ _)
   | (with_reducible exact LeO.refl _)
   | (with_reducible exact LeO.none _)
   | (with_reducible refine LeO.ite ?_ ?_)
   | (with_reducible refine LeO.bind ?_ (fun _ => ?_))
   | exact ih0 _ _ _
   | exact ih1 _ _ _ _
   | exact LeO.none _
   | refine LeO.ite ?_ ?_
   | refine LeO.bind ?_ (fun _ => ?_)
set_option maxHeartbeats 8000000 in
set_option maxRecDepth 100000 in
theorem cambiumref02_More.calls (k : Nat) (a0 : Int) (A1 : Option Addr) (c1 : Nat) (l1 : List Int) (r : Int) (w : World) (hr1 : Kd.C (Kd.int .u8) w A1 l1.length l1) (hc1 : l1.length ≤ c1) (h : cambiumref02_More.f k a0 l1 = some r) :
  Calls Try.prog 66 #[.int .u32 a0, .slice A1 l1.length c1] w fun e w' => e = .returned (.int .u32 r) ∧ Drawn0 w w' := by
 have HR1 := Aside0.mk hr1
 have HC1 := Aside0.mk hc1
 clear hr1 hc1
 have H : (cambiumref02_More.l0 k l1 (Go.bits .xor .u32 a0 4294967295) 0) = some r := h
 clear h
 have H' := Aside0.mk H
 clear H
 go_enter Try.func66, Try.ntmps66
 go_wp2
 go_loopg [5, 6] k (fun kq v5 v6 w' => ∃ (x5_1 : Int) (x6_1 : Int), v5 = .int .u32 x5_1 ∧ v6 = .int .i64 x6_1 ∧ Aside0 (cambiumref02_More.l0 kq l1 x5_1 x6_1 = some r) ∧ Aside0 (kq ≤ k) ∧ Drawn0 w w')
 case atStart => exact ⟨(Go.bits .xor .u32 a0 4294967295), (0), q14_, q14_, H', ⟨Nat.le_refl _⟩, by repeat (first | exact Drawn0.refl _ | apply Drawn0.step)⟩
 case round =>
  clear H'
  try clear c1
  try clear p2
  obtain ⟨x5_1, x6_1, rfl, rfl, HA, HK1, ⟨m1, rfl⟩⟩ := hrel
  cases gk with
  | zero => exact absurd (show none = some _ from HA.out) (by simp)
  | succ k1 =>
   have H := HA.out
   clear HA
   simp only [cambiumref02_More.l0] at H
   by_cases c3 : x6_1 < (l1.length : Int)
   ·rw [if_pos c3] at H
    have c3b0 : decide (x6_1 < (l1.length : Int)) = true := decide_eq_true c3
    clear c3
    by_cases c4 : 0 ≤ x6_1
    ·rw [if_pos c4] at H
     have c4b0 : decide (0 ≤ x6_1) = true := decide_eq_true c4
     clear c4
     have H' := Aside0.mk H
     clear H
     have p253 : 0 ≤ (x6_1 : Int) := of_decide_eq_true q4_
     have q253 : x6_1 < (l1.length : Int) := of_decide_eq_true q4_
     obtain ⟨ad253, e253, hx253_0⟩ := Kd.at_int HR1.out x6_1 p253 q253
     cases e253
     replace p253 := eq_true p253
     replace q253 := eq_true q253
     go_wp2
     go_loopg [5, 7] k1 (fun kq v5 v7 w' => ∃ (x5_2 : Int) (x7_2 : Int), v5 = .int .u32 x5_2 ∧ v7 = .int .i64 x7_2 ∧ Aside0 (cambiumref02_More.l1 kq l1 x5_2 x6_1 x7_2 = some r) ∧ Aside0 (kq ≤ k1) ∧ Drawn0 w w')
     case atStart => exact ⟨(Go.bits .xor .u32 x5_1 ((rd l1 x6_1) % 4294967296)), (0), q14_, q14_, H', ⟨Nat.le_refl _⟩, by repeat (first | exact Drawn0.refl _ | apply Drawn0.step)⟩
     case round =>
      clear H'
      try clear c1
      try clear p2
      try clear q2
      try clear hx2
      try clear c3
      try clear c3b0
      try clear c4
      try clear c4b0
      try clear hx253_0
      try clear p2
      try clear p253
      try clear q253
      obtain ⟨x5_2, x7_2, rfl, rfl, HA, HK2, ⟨m2, rfl⟩⟩ := hrel
      cases gk with
      | zero => exact absurd (show none = some _ from HA.out) (by simp)
      | succ k2 =>
       have H := HA.out
       clear HA
       simp only [cambiumref02_More.l1] at H
       by_cases c5 : x7_2 < 8
       ·rw [if_pos c5] at H
        have c5b0 : decide (x7_2 < 8) = true := decide_eq_true c5
        clear c5
        by_cases c6 : (Int.tmod x5_2 2) = 1
        ·rw [if_pos c6] at H
         have c6b0 : ((Int.tmod x5_2 2) == 1) = true := beq_iff_eq.mpr c6
         have c6b1 : ((Int.tmod x5_2 2) != 1) = false := bne_eq_false_iff_eq.mpr c6
         clear c6
         have H' := Aside0.mk H
         clear H
         go_wp2
         go_roundg k2
         case measure => have := HK1.out; have := HK2.out; omega
         case rel => exact ⟨(Go.bits .xor .u32 ((Int.tdiv x5_2 2) % 4294967296) 2197175160), (wrap64 (x7_2 + 1)), q14_, q14_, H', ⟨q189_⟩, by repeat (first | exact Drawn0.refl _ | apply Drawn0.step)⟩
        ·rw [if_neg c6] at H
         have c6b0 : ((Int.tmod x5_2 2) == 1) = false := beq_eq_false_iff_ne.mpr c6
         have c6b1 : ((Int.tmod x5_2 2) != 1) = true := bne_iff_ne.mpr c6
         have H' := Aside0.mk H
         clear H
         go_wp2
         go_roundg k2
         case measure => have := HK1.out; have := HK2.out; omega
         case rel => exact ⟨((Int.tdiv x5_2 2) % 4294967296), (wrap64 (x7_2 + 1)), q14_, q14_, H', ⟨q189_⟩, by repeat (first | exact Drawn0.refl _ | apply Drawn0.step)⟩
       ·rw [if_neg c5] at H
        have c5b0 : decide (x7_2 < 8) = false := decide_eq_false c5
        clear c5
        have H' := Aside0.mk H
        clear H
        go_wp2
        go_roundg k2
        case measure => have := HK1.out; have := HK2.out; omega
        case rel => exact ⟨(x5_2), (wrap64 (x6_1 + 1)), q14_, q14_, H', ⟨q189_⟩, by repeat (first | exact Drawn0.refl _ | apply Drawn0.step)⟩
    ·rw [if_neg c4] at H
     exact absurd H (by simp)
   ·rw [if_neg c3] at H
    have c3b0 : decide (x6_1 < (l1.length : Int)) = false := decide_eq_false c3
    clear c3
    obtain rfl := Option.some.inj H
    go_wp2
    go_ret
    exact ⟨q14_, by repeat (first | exact Drawn0.refl _ | apply Drawn0.step)⟩

/-! ### cambiumref02_Sum: function 57 -/
def cambiumref02_Sum.f (k : Nat) (l0 : List Int) : Option (Int) := (cambiumref02_More.f k 0 l0).bind fun t254 => (some t254)
theorem cambiumref02_Sum.mono : ∀ a0 k, LeO (cambiumref02_Sum.f k a0) (cambiumref02_Sum.f (k + 1) a0) := by
 intro a0 k
 unfold cambiumref02_Sum.f
 repeat' first
   | (with_reducible exact cambiumref02_More.mono _ _ _)
   | (with_reducible exact LeO.refl _)
   | (with_reducible exact LeO.none _)
   | (with_reducible refine LeO.ite ?_ ?_)
   | (with_reducible refine LeO.bind ?_ (fun _ => ?_))
   | exact cambiumref02_More.mono _ _ _
   | exact LeO.none _
   | refine LeO.ite ?_ ?_
   | refine LeO.bind ?_ (fun _ => ?_)
set_option maxHeartbeats 8000000 in
set_option maxRecDepth 100000 in
theorem cambiumref02_Sum.calls (k : Nat) (A0 : Option Addr) (c0 : Nat) (l0 : List Int) (r : Int) (w : World) (hr0 : Kd.C (Kd.int .u8) w A0 l0.length l0) (hc0 : l0.length ≤ c0) (h : cambiumref02_Sum.f k l0 = some r) :
  Calls Try.prog 57 #[.slice A0 l0.length c0] w fun e w' => e = .returned (.int .u32 r) ∧ Drawn0 w w' := by
 have HR0 := Aside0.mk hr0
 have HC0 := Aside0.mk hc0
 clear hr0 hc0
 have H : ((cambiumref02_More.f k 0 l0).bind fun t254 => (some t254)) = some r := h
 clear h
 replace H := Option.bind_eq_some_iff.mp H
 obtain ⟨t254, A20, H⟩ := H
 replace H : (some t254) = some r := H
 have A2 := Aside0.mk A20
 clear A20
 obtain rfl := Option.some.inj H
 go_enter Try.func57, Try.ntmps57
 go_wp2_with (first | ((with_reducible refine gate_callee (f := 66) rfl ?_); refine goesL_ (some 4) rfl rfl Try.func66 q8_ rfl #[.int .u32 0, .slice A0 l0.length c0] rfl q1_ ?_; (with_reducible refine (cambiumref02_More.calls k 0 _ _ l0 t254 _ ?side1 ?side2 A2.out).mono ?_); (case side1 => repeat (first | exact HR0.out | (with_reducible refine Kd.C_alloc ?_ _) | (with_reducible refine Kd.C_drewN ?_ _) | (with_reducible refine Kd.C_drew ?_))); (case side2 => exact HC0.out); rintro e w' ⟨rfl, ⟨nd, rfl⟩⟩; refine ⟨_, rfl, ?_⟩))
 go_ret
 exact ⟨q14_, by repeat (first | exact Drawn0.refl _ | apply Drawn0.step)⟩

end Go.Proofs.Ytcjnknpbikfimaa.P
