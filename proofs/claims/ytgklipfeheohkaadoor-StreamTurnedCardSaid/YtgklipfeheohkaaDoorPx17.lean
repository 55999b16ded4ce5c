/- Functions and contracts, written by a program (mkprint.py, a wrapper of ours around the print); texts between GIVEN marks are ours. -/
import Derived.Test.YtgklipfeheohkaaDoorPx0
import Derived.Test.YtgklipfeheohkaaDoorPx2
import Derived.Test.YtgklipfeheohkaaDoorPx3
import Derived.Test.YtgklipfeheohkaaDoorPx4
import Derived.Test.YtgklipfeheohkaaDoorPx11
namespace Go.Proofs.YtgklipfeheohkaaDoor.P
open Go.RowKit Go.Proofs.YtgklipfeheohkaaDoorW.PrintWords Go.Proofs.YtgklipfeheohkaaDoorW.PrintLast Go.Proofs.YtgklipfeheohkaaDoorW.PrintMore
attribute [local go_sem] max2_int min2_int max_two min_two max_three min_three max_four min_four   -- for this text's walks alone
set_option linter.unusedVariables false
set_option linter.unusedSimpArgs false
theorem q45_ {P : Prop} (h : P := by (with_reducible repeat (first | apply Kd.V_alloc | apply Kd.V_drewN | apply Kd.V_drew)); exact HO523.out) : P := h
theorem q46_ {P : Prop} (h : P := by (with_reducible repeat (first | apply Kd.V_alloc | apply Kd.V_drewN | apply Kd.V_drew)); exact HO526.out) : P := h
theorem q56_ {P : Prop} (h : P := by (with_reducible repeat (first | apply Kd.R_alloc | apply Kd.R_drewN | apply Kd.R_drew)); exact HO537.out) : P := h

/-! ### cambiumlaw19_StreamTurned: function 8 -/
mutual
def cambiumlaw19_StreamTurned.j0 : Nat → Int → Int → Bool → List Int → Int → Bool → Option (Bool)
 | 0, _, _, _, _, _, _ => none
 | k + 1, x1, x2, x7, x8, x9, x33 => if x33 = true then (if x7 = true then (some (x9 != 0)) else (some false)) else (if (x8.length : Int) = 0 then (none) else (if (Int.tmod x1 (x8.length : Int)) < 0 then (cambiumlaw19_StreamTurned.j1 k x2 x7 x8 (wrap64 (-(Int.tmod x1 (x8.length : Int))))) else (cambiumlaw19_StreamTurned.j1 k x2 x7 x8 (Int.tmod x1 (x8.length : Int)))))
def cambiumlaw19_StreamTurned.j1 : Nat → Int → Bool → List Int → Int → Option (Bool)
 | 0, _, _, _, _ => none
 | k + 1, x2, x7, x8, x10 => if 0 ≤ x10 then (if x10 ≤ (x8.length : Int) then ((stream_Take.f k (x8.take (x10 : Int).toNat)).bind fun bt524 => ((some (([] : List Int) : List Int)).bind fun y529 => (if y529.length + x8.length < 140737488355328 then ((some (y529 ++ x8 : List Int)).bind fun y532 => (if y532.length < 140737488355328 then ((stream_Take.f k (y532 ++ [x2])).bind fun bt538 => (if x2 = 0 then (if x10 < (x8.length : Int) then ((stream_Take.f k (x8.set (x10 : Int).toNat (Go.bits .xor .u8 (rd x8 x10) 1))).bind fun bt545 => (if x7 = true then (if bt524.2.2 = 26 then (if bt538.2.2 = 26 then (some (bt545.2.2 == 26)) else (some false)) else (some false)) else (some false))) else (none)) else (if x10 < (x8.length : Int) then ((stream_Take.f k (x8.set (x10 : Int).toNat (Go.bits .xor .u8 (rd x8 x10) x2))).bind fun bt552 => (if x7 = true then (if bt524.2.2 = 26 then (if bt538.2.2 = 26 then (some (bt552.2.2 == 26)) else (some false)) else (some false)) else (some false))) else (none)))) else (none))) else (none)))) else (none)) else (none)
end
def cambiumlaw19_StreamTurned.f (k : Nat) (l0 : List (S37)) (a1 : Int) (a2 : Int) : Option (Bool) := (cambiumlaw19_shown.f k).bind fun t511 => ((cambiumlaw19_few.f k l0).bind fun t512 => ((stream_Put.f k t512 false).bind fun bt515 => (if bt515.2 = 0 then (cambiumlaw19_StreamTurned.j0 k a1 a2 t511 bt515.1 bt515.2 ((bt515.1.length : Int) == 0)) else (cambiumlaw19_StreamTurned.j0 k a1 a2 t511 bt515.1 bt515.2 true))))
theorem cambiumlaw19_StreamTurned.mono_l : ∀ k, (∀ y0 y1 y2 y3 y4 y5, LeO (cambiumlaw19_StreamTurned.j0 k y0 y1 y2 y3 y4 y5) (cambiumlaw19_StreamTurned.j0 (k + 1) y0 y1 y2 y3 y4 y5)) ∧ (∀ y0 y1 y2 y3, LeO (cambiumlaw19_StreamTurned.j1 k y0 y1 y2 y3) (cambiumlaw19_StreamTurned.j1 (k + 1) y0 y1 y2 y3))
 | 0 => ⟨fun _ _ _ _ _ _ r h => by simp [cambiumlaw19_StreamTurned.j0] at h, fun _ _ _ _ r h => by simp [cambiumlaw19_StreamTurned.j1] at h⟩
 | k + 1 => by
  obtain ⟨ih0, ih1⟩ := cambiumlaw19_StreamTurned.mono_l k
  refine ⟨?_, ?_⟩
  ·intro y0 y1 y2 y3 y4 y5
   unfold cambiumlaw19_StreamTurned.j0
   repeat' first
   | (with_reducible exact ih0 _ _ _ _ _ _)
   | (with_reducible exact ih1 _ _ _ _)
   | (with_reducible exact cambiumlaw19_few.mono _ _)
   | (with_reducible exact cambiumlaw19_shown.mono _)
   | (with_reducible exact stream_Put.mono _ _ _)
   | (with_reducible exact stream_Take.mono _ _)
   | (with_reducible exact LeO.refl _)
   | (with_reducible exact LeO.none _)
   | (with_reducible refine LeO.ite ?_ ?_)
   | (with_reducible refine LeO.bind ?_ (fun _ => ?_))
   | exact ih0 _ _ _ _ _ _
   | exact ih1 _ _ _ _
   | exact cambiumlaw19_few.mono _ _
   | exact cambiumlaw19_shown.mono _
   | exact stream_Put.mono _ _ _
   | exact stream_Take.mono _ _
   | exact LeO.none _
   | refine LeO.ite ?_ ?_
   | refine LeO.bind ?_ (fun _ => ?_)
  ·intro y0 y1 y2 y3
   unfold cambiumlaw19_StreamTurned.j1
   repeat' first
   | (with_reducible exact ih0 _ _ _ _ _ _)
   | (with_reducible exact ih1 _ _ _ _)
   | (with_reducible exact cambiumlaw19_few.mono _ _)
   | (with_reducible exact cambiumlaw19_shown.mono _)
   | (with_reducible exact stream_Put.mono _ _ _)
   | (with_reducible exact stream_Take.mono _ _)
   | (with_reducible exact LeO.refl _)
   | (with_reducible exact LeO.none _)
   | (with_reducible refine LeO.ite ?_ ?_)
   | (with_reducible refine LeO.bind ?_ (fun _ => ?_))
   | exact ih0 _ _ _ _ _ _
   | exact ih1 _ _ _ _
   | exact cambiumlaw19_few.mono _ _
   | exact cambiumlaw19_shown.mono _
   | exact stream_Put.mono _ _ _
   | exact stream_Take.mono _ _
   | exact LeO.none _
   | refine LeO.ite ?_ ?_
   | refine LeO.bind ?_ (fun _ => ?_)
theorem cambiumlaw19_StreamTurned.mono : ∀ a0 a1 a2 k, LeO (cambiumlaw19_StreamTurned.f k a0 a1 a2) (cambiumlaw19_StreamTurned.f (k + 1) a0 a1 a2) := by
 intro a0 a1 a2 k
 obtain ⟨ih0, ih1⟩ := cambiumlaw19_StreamTurned.mono_l k
 unfold cambiumlaw19_StreamTurned.f
 repeat' first
   | (with_reducible exact ih0 _ _ _ _ _ _)
   | (with_reducible exact ih1 _ _ _ _)
   | (with_reducible exact cambiumlaw19_few.mono _ _)
   | (with_reducible exact cambiumlaw19_shown.mono _)
   | (with_reducible exact stream_Put.mono _ _ _)
   | (with_reducible exact stream_Take.mono _ _)
   | (with_reducible exact LeO.refl _)
   | (with_reducible exact LeO.none _)
   | (with_reducible refine LeO.ite ?_ ?_)
   | (with_reducible refine LeO.bind ?_ (fun _ => ?_))
   | exact ih0 _ _ _ _ _ _
   | exact ih1 _ _ _ _
   | exact cambiumlaw19_few.mono _ _
   | exact cambiumlaw19_shown.mono _
   | exact stream_Put.mono _ _ _
   | exact stream_Take.mono _ _
   | exact LeO.none _
   | refine LeO.ite ?_ ?_
   | refine LeO.bind ?_ (fun _ => ?_)
set_option maxHeartbeats 8000000 in
set_option maxRecDepth 100000 in
theorem cambiumlaw19_StreamTurned.calls (k : Nat) (A0 : Option Addr) (c0 : Nat) (l0 : List (S37)) (a1 : Int) (a2 : Int) (r : Bool) (w : World) (hr0 : Kd.C k37 w A0 l0.length l0) (hc0 : l0.length ≤ c0) (hr_ : Aside0 (r = true)) (h : cambiumlaw19_StreamTurned.f k l0 a1 a2 = some r) :
  Calls Tryd.prog 8 #[.slice A0 l0.length c0, .int .i64 a1, .int .u8 a2] w fun e w' => e = .returned (.bool r) ∧ Below w.heap.size w w' := by
 have HR0 := Aside0.mk hr0
 have HC0 := Aside0.mk hc0
 clear hr0 hc0
 have HB := Aside0.mk (Below.refl w.heap.size w)
 have H : ((cambiumlaw19_shown.f k).bind fun t511 => ((cambiumlaw19_few.f k l0).bind fun t512 => ((stream_Put.f k t512 false).bind fun bt515 => (if bt515.2 = 0 then (cambiumlaw19_StreamTurned.j0 k a1 a2 t511 bt515.1 bt515.2 ((bt515.1.length : Int) == 0)) else (cambiumlaw19_StreamTurned.j0 k a1 a2 t511 bt515.1 bt515.2 true))))) = some r := h
 clear h
 replace H := Option.bind_eq_some_iff.mp H
 obtain ⟨t511, A40, H⟩ := H
 replace H : ((cambiumlaw19_few.f k l0).bind fun t512 => ((stream_Put.f k t512 false).bind fun bt515 => (if bt515.2 = 0 then (cambiumlaw19_StreamTurned.j0 k a1 a2 t511 bt515.1 bt515.2 ((bt515.1.length : Int) == 0)) else (cambiumlaw19_StreamTurned.j0 k a1 a2 t511 bt515.1 bt515.2 true)))) = some r := H
 have A4 := Aside0.mk A40
 clear A40
 replace H := Option.bind_eq_some_iff.mp H
 obtain ⟨t512, A50, H⟩ := H
 replace H : ((stream_Put.f k t512 false).bind fun bt515 => (if bt515.2 = 0 then (cambiumlaw19_StreamTurned.j0 k a1 a2 t511 bt515.1 bt515.2 ((bt515.1.length : Int) == 0)) else (cambiumlaw19_StreamTurned.j0 k a1 a2 t511 bt515.1 bt515.2 true))) = some r := H
 have A5 := Aside0.mk A50
 clear A50
 replace H := Option.bind_eq_some_iff.mp H
 obtain ⟨⟨t515, t516⟩, A60, H⟩ := H
 replace H : (if t516 = 0 then (cambiumlaw19_StreamTurned.j0 k a1 a2 t511 t515 t516 ((t515.length : Int) == 0)) else (cambiumlaw19_StreamTurned.j0 k a1 a2 t511 t515 t516 true)) = some r := H
 have A6 := Aside0.mk A60
 clear A60
 have HC7 := Aside0.mk H
 clear H
 go_enter Tryd.func8, Tryd.ntmps8
 go_upto_region 3 with (first | ((with_reducible refine gate_callee (f := 9) rfl ?_); refine goesL_ (some 20) rfl rfl Tryd.func9 q18_ rfl #[] rfl q1_ ?_; (with_reducible refine (cambiumlaw19_shown.calls k  t511 _ A4.out).mono ?_); rintro e w8 ⟨rfl, hb⟩; refine ⟨_, rfl, ?_⟩; have n0_ := Aside0.mk (below_step q0_ hb); clear HB; have HB := n0_; clear n0_; (try clear hb); (try clear hb2); (try clear hk); (try clear hi)) | ((with_reducible refine gate_callee (f := 16) rfl ?_); refine goesL_ (some 23) rfl rfl Tryd.func16 q18_ rfl #[.slice A0 l0.length c0] rfl q1_ ?_; (with_reducible refine (cambiumlaw19_few.calls k (fun k_ => k_ < w.heap.size) _ _ l0 t512 _ ?side1 A5.out).mono ?_); (case side1 => exact Kd.V_mk HC0.out (Kd.F_below (Kd.C_F k37_heap HR0.out) q0_)); rintro e w9 ⟨v513, rfl, ho0, hb⟩; refine ⟨_, rfl, ?_⟩; have n0_ := Aside0.mk (Kd.N_lower (Kd.N_mono (ok' := fun k_ => True) ho0 (fun k_ hk_ => trivial)) (below_size q0_)); have n1_ := Aside0.mk (below_step q0_ hb); clear HB; have HO514 := n0_; have HB := n1_; clear n0_ n1_; (try clear hb); (try clear hb2); (try clear hk); (try clear hi); (try clear ho0); obtain ⟨Ao10, co10, eo10⟩ := Kd.N_slice HO514.out; subst eo10) | ((with_reducible refine gate_callee (f := 19) rfl ?_); refine goesL_ (some 24) rfl rfl Tryd.func19 q18_ rfl #[.slice Ao10 t512.length co10, .bool false] rfl q1_ ?_; (with_reducible refine (stream_Put.calls k _ _ t512 false t515 t516 _ ?side1 ?side2 A6.out).mono ?_); (case side1 => repeat (first | exact (Kd.N_reads' HO514.out).2.2 | (with_reducible refine Kd.C_alloc ?_ _) | (with_reducible refine Kd.C_drewN ?_ _) | (with_reducible refine Kd.C_drew ?_))); (case side2 => exact (Kd.N_reads' HO514.out).2.1); rintro e w11 ⟨v517, rfl, ho0, hb⟩; refine ⟨_, rfl, ?_⟩; have n0_ := Aside0.mk (Kd.N_elder' (by (with_reducible repeat (first | apply Kd.N_alloc | apply Kd.N_drewN | apply Kd.N_drew)); exact HO514.out) (Kd.R_base ho0) hb); have n1_ := Aside0.mk (Kd.R_lower ho0 (below_size q0_)); have n2_ := Aside0.mk (below_step q0_ hb); clear HO514; clear HB; have HO514 := n0_; have HO518 := n1_; have HB := n2_; clear n0_ n1_ n2_; (try clear hb); (try clear hb2); (try clear hk); (try clear hi); (try clear ho0)))
 (try simp only [Act.put, List.setIfInBounds_toArray, List.set_cons_zero, List.set_cons_succ])
 go_cut [33] (fun v33 wc => ∃ (kq : Nat) (x33_6 : Bool), v33 = .bool x33_6 ∧ Aside0 (cambiumlaw19_StreamTurned.j0 kq a1 a2 t511 t515 t516 x33_6 = some r) ∧ Aside0 (kq ≤ k) ∧ Aside0 (Kd.R (Kd.int .u8) 5 wc w.heap.size (fun _ => True) v517 t515) ∧ Aside0 (Below w.heap.size w wc))
 case first =>
  have H := HC7.out
  clear HC7
  by_cases c12 : t516 = 0
  ·rw [if_pos c12] at H
   have c12b0 : (t516 == 0) = true := beq_iff_eq.mpr c12
   have c12b1 : (t516 != 0) = false := bne_eq_false_iff_eq.mpr c12
   clear c12
   (first | rw [c12b0] | (simp only [i64_w, i32_w]; rw [c12b0]) | skip)
   have H' := Aside0.mk H
   clear H
   obtain ⟨Ao13, co13, eo13⟩ := Kd.R_slice HO518.out
   subst eo13
   go_wp2
   go_meet
   case rel => exact ⟨_, (((t515.length : Int) == 0)), q3_, H', ⟨q51_⟩, ⟨by (with_reducible repeat (first | apply Kd.R_alloc | apply Kd.R_drewN | apply Kd.R_drew)); exact HO518.out⟩, ⟨q0_⟩⟩
  ·rw [if_neg c12] at H
   have c12b0 : (t516 == 0) = false := beq_eq_false_iff_ne.mpr c12
   have c12b1 : (t516 != 0) = true := bne_iff_ne.mpr c12
   (first | rw [c12b0] | (simp only [i64_w, i32_w]; rw [c12b0]) | skip)
   have H' := Aside0.mk H
   clear H
   go_wp2
   go_meet
   case rel => exact ⟨_, (true), q3_, H', ⟨q51_⟩, ⟨by (with_reducible repeat (first | apply Kd.R_alloc | apply Kd.R_drewN | apply Kd.R_drew)); exact HO518.out⟩, ⟨q0_⟩⟩
 case rest =>
  clear HC7
  try clear c1
  try clear p2
  try clear c8
  try clear c9
  try clear c12
  try clear c12b0
  try clear c12b1
  obtain ⟨kq, x33_6, rfl, HA, HJ6, HO_8, HB⟩ := hcut
  cases kq with
  | zero => exact absurd (show none = some _ from HA.out) (by simp)
  | succ kj6 =>
   have H := HA.out
   clear HA
   simp only [cambiumlaw19_StreamTurned.j0] at H
   by_cases c14 : x33_6 = true
   ·subst c14
    have H1 : (if t511 = true then (some (t516 != 0)) else (some false)) = some r := by rw [if_pos rfl] at H; exact H
    clear H
    have H := H1
    clear H1
    by_cases c15 : t511 = true
    ·subst c15
     have H1 : (some (t516 != 0)) = some r := by rw [if_pos rfl] at H; exact H
     clear H
     have H := H1
     clear H1
     obtain rfl := Option.some.inj H
     go_wp2
     go_ret
     exact ⟨q9_, by repeat (first | (with_reducible first | exact HB.out | apply below_alloc | apply pw_below_drewN | apply below_drew1) | exact HB.out)⟩
    ·replace c15 := Bool.eq_false_iff.mpr c15
     subst c15
     have H1 : (some false) = some r := by rw [if_neg (show ¬ (false = true) by decide)] at H; exact H
     clear H
     have H := H1
     clear H1
     exact absurd (Option.some.inj H) (by rw [hr_.out]; decide)
   ·replace c14 := Bool.eq_false_iff.mpr c14
    subst c14
    have H1 : (if (t515.length : Int) = 0 then (none) else (if (Int.tmod a1 (t515.length : Int)) < 0 then (cambiumlaw19_StreamTurned.j1 kj6 a2 t511 t515 (wrap64 (-(Int.tmod a1 (t515.length : Int))))) else (cambiumlaw19_StreamTurned.j1 kj6 a2 t511 t515 (Int.tmod a1 (t515.length : Int))))) = some r := by rw [if_neg (show ¬ (false = true) by decide)] at H; exact H
    clear H
    have H := H1
    clear H1
    by_cases c16 : (t515.length : Int) = 0
    ·rw [if_pos c16] at H
     exact absurd H (by simp)
    ·rw [if_neg c16] at H
     have c16b0 : ((t515.length : Int) == 0) = false := beq_eq_false_iff_ne.mpr c16
     have c16b1 : ((t515.length : Int) != 0) = true := bne_iff_ne.mpr c16
     have c16b2 : ¬ (t515 = []) := fun h_ => c16 (by rw [h_]; rfl)
     have HC17 := Aside0.mk H
     clear H
     obtain ⟨Ao18, co18, eo18⟩ := Kd.R_slice HO_8.out
     subst eo18
     go_upto_if 44 with (fail)
     go_cut [10] (fun v10 wc => ∃ (kq : Nat) (x10_16 : Int), v10 = .int .i64 x10_16 ∧ Aside0 (cambiumlaw19_StreamTurned.j1 kq a2 t511 t515 x10_16 = some r) ∧ Aside0 (kq ≤ kj6) ∧ Aside0 (Kd.R (Kd.int .u8) 5 wc w.heap.size (fun _ => True) (.slice Ao18 t515.length co18) t515) ∧ Aside0 (Below w.heap.size w wc))
     case first =>
      have H := HC17.out
      clear HC17
      by_cases c19 : (Int.tmod a1 (t515.length : Int)) < 0
      ·rw [if_pos c19] at H
       have c19b0 : decide ((Int.tmod a1 (t515.length : Int)) < 0) = true := decide_eq_true c19
       clear c19
       (first | rw [c19b0] | (simp only [i64_w, i32_w]; rw [c19b0]) | skip)
       have H' := Aside0.mk H
       clear H
       go_wp2
       go_meet
       case rel => exact ⟨_, (wrap64 (-(Int.tmod a1 (t515.length : Int)))), q3_, H', ⟨by have := HJ6.out; first | omega | exact Nat.le_refl _⟩, ⟨q11_⟩, ⟨q0_⟩⟩
      ·rw [if_neg c19] at H
       have c19b0 : decide ((Int.tmod a1 (t515.length : Int)) < 0) = false := decide_eq_false c19
       clear c19
       (first | rw [c19b0] | (simp only [i64_w, i32_w]; rw [c19b0]) | skip)
       have H' := Aside0.mk H
       clear H
       go_wp2
       go_meet
       case rel => exact ⟨_, (Int.tmod a1 (t515.length : Int)), q3_, H', ⟨by have := HJ6.out; first | omega | exact Nat.le_refl _⟩, ⟨q11_⟩, ⟨q0_⟩⟩
     case rest =>
      clear HC17
      try clear c1
      try clear p2
      try clear p6
      try clear c8
      try clear c9
      try clear c12
      try clear c12b0
      try clear c12b1
      try clear c14
      try clear c15
      try clear c16
      try clear c16b0
      try clear c16b1
      try clear c16b2
      try clear c19
      try clear c19b0
      try clear p2
      obtain ⟨kq, x10_16, rfl, HA, HJ16, HO_8, HB⟩ := hcut
      cases kq with
      | zero => exact absurd (show none = some _ from HA.out) (by simp)
      | succ kj16 =>
       have H := HA.out
       clear HA
       simp only [cambiumlaw19_StreamTurned.j1] at H
       by_cases c20 : 0 ≤ x10_16
       ·rw [if_pos c20] at H
        have c20b0 := eq_true c20
        have c20b1 : decide (0 ≤ x10_16) = true := decide_eq_true c20
        clear c20
        by_cases c21 : x10_16 ≤ (t515.length : Int)
        ·rw [if_pos c21] at H
         have c21b0 := eq_true c21
         have c21b1 : decide (x10_16 ≤ (t515.length : Int)) = true := decide_eq_true c21
         clear c21
         obtain ⟨y519, hy519⟩ : ∃ y_ : List Int, y_ = (t515.take (x10_16 : Int).toNat) := ⟨_, rfl⟩
         replace H : ((stream_Take.f kj16 y519).bind fun bt524 => ((some (([] : List Int) : List Int)).bind fun y529 => (if y529.length + t515.length < 140737488355328 then ((some (y529 ++ t515 : List Int)).bind fun y532 => (if y532.length < 140737488355328 then ((stream_Take.f kj16 (y532 ++ [a2])).bind fun bt538 => (if a2 = 0 then (if x10_16 < (t515.length : Int) then ((stream_Take.f kj16 (t515.set (x10_16 : Int).toNat (Go.bits .xor .u8 (rd t515 x10_16) 1))).bind fun bt545 => (if t511 = true then (if bt524.2.2 = 26 then (if bt538.2.2 = 26 then (some (bt545.2.2 == 26)) else (some false)) else (some false)) else (some false))) else (none)) else (if x10_16 < (t515.length : Int) then ((stream_Take.f kj16 (t515.set (x10_16 : Int).toNat (Go.bits .xor .u8 (rd t515 x10_16) a2))).bind fun bt552 => (if t511 = true then (if bt524.2.2 = 26 then (if bt538.2.2 = 26 then (some (bt552.2.2 == 26)) else (some false)) else (some false)) else (some false))) else (none)))) else (none))) else (none)))) = some r := by first | (rw [hy519]; with_reducible exact H) | (have H2_ := (Option.bind_some _ _).symm.trans H; rw [hy519]; with_reducible exact H2_) | (have H2_ := (Option.bind_some _ _).symm.trans H; with_reducible exact H2_) | with_reducible exact H | (rw [hy519]; exact H) | exact H
         have Ny519 := Aside0.mk hy519
         clear hy519
         replace H := Option.bind_eq_some_iff.mp H
         obtain ⟨⟨t524, t527, t528⟩, A220, H⟩ := H
         replace H : ((some (([] : List Int) : List Int)).bind fun y529 => (if y529.length + t515.length < 140737488355328 then ((some (y529 ++ t515 : List Int)).bind fun y532 => (if y532.length < 140737488355328 then ((stream_Take.f kj16 (y532 ++ [a2])).bind fun bt538 => (if a2 = 0 then (if x10_16 < (t515.length : Int) then ((stream_Take.f kj16 (t515.set (x10_16 : Int).toNat (Go.bits .xor .u8 (rd t515 x10_16) 1))).bind fun bt545 => (if t511 = true then (if t528 = 26 then (if bt538.2.2 = 26 then (some (bt545.2.2 == 26)) else (some false)) else (some false)) else (some false))) else (none)) else (if x10_16 < (t515.length : Int) then ((stream_Take.f kj16 (t515.set (x10_16 : Int).toNat (Go.bits .xor .u8 (rd t515 x10_16) a2))).bind fun bt552 => (if t511 = true then (if t528 = 26 then (if bt538.2.2 = 26 then (some (bt552.2.2 == 26)) else (some false)) else (some false)) else (some false))) else (none)))) else (none))) else (none))) = some r := H
         have A22 := Aside0.mk A220
         clear A220
         obtain ⟨y529, hy529⟩ : ∃ y_ : List Int, y_ = (([] : List Int)) := ⟨_, rfl⟩
         replace H : (if y529.length + t515.length < 140737488355328 then ((some (y529 ++ t515 : List Int)).bind fun y532 => (if y532.length < 140737488355328 then ((stream_Take.f kj16 (y532 ++ [a2])).bind fun bt538 => (if a2 = 0 then (if x10_16 < (t515.length : Int) then ((stream_Take.f kj16 (t515.set (x10_16 : Int).toNat (Go.bits .xor .u8 (rd t515 x10_16) 1))).bind fun bt545 => (if t511 = true then (if t528 = 26 then (if bt538.2.2 = 26 then (some (bt545.2.2 == 26)) else (some false)) else (some false)) else (some false))) else (none)) else (if x10_16 < (t515.length : Int) then ((stream_Take.f kj16 (t515.set (x10_16 : Int).toNat (Go.bits .xor .u8 (rd t515 x10_16) a2))).bind fun bt552 => (if t511 = true then (if t528 = 26 then (if bt538.2.2 = 26 then (some (bt552.2.2 == 26)) else (some false)) else (some false)) else (some false))) else (none)))) else (none))) else (none)) = some r := by first | (rw [hy529]; with_reducible exact H) | (have H2_ := (Option.bind_some _ _).symm.trans H; rw [hy529]; with_reducible exact H2_) | (have H2_ := (Option.bind_some _ _).symm.trans H; with_reducible exact H2_) | with_reducible exact H | (rw [hy529]; exact H) | exact H
         have Ny529 := Aside0.mk hy529
         clear hy529
         by_cases c23 : y529.length + t515.length < 140737488355328
         ·rw [if_pos c23] at H
          have LMc23 := Aside0.mk c23
          clear c23
          obtain ⟨y532, hy532⟩ : ∃ y_ : List Int, y_ = (y529 ++ t515) := ⟨_, rfl⟩
          replace H : (if y532.length < 140737488355328 then ((stream_Take.f kj16 (y532 ++ [a2])).bind fun bt538 => (if a2 = 0 then (if x10_16 < (t515.length : Int) then ((stream_Take.f kj16 (t515.set (x10_16 : Int).toNat (Go.bits .xor .u8 (rd t515 x10_16) 1))).bind fun bt545 => (if t511 = true then (if t528 = 26 then (if bt538.2.2 = 26 then (some (bt545.2.2 == 26)) else (some false)) else (some false)) else (some false))) else (none)) else (if x10_16 < (t515.length : Int) then ((stream_Take.f kj16 (t515.set (x10_16 : Int).toNat (Go.bits .xor .u8 (rd t515 x10_16) a2))).bind fun bt552 => (if t511 = true then (if t528 = 26 then (if bt538.2.2 = 26 then (some (bt552.2.2 == 26)) else (some false)) else (some false)) else (some false))) else (none)))) else (none)) = some r := by first | (rw [hy532]; with_reducible exact H) | (have H2_ := (Option.bind_some _ _).symm.trans H; rw [hy532]; with_reducible exact H2_) | (have H2_ := (Option.bind_some _ _).symm.trans H; with_reducible exact H2_) | with_reducible exact H | (rw [hy532]; exact H) | exact H
          have Ny532 := Aside0.mk hy532
          clear hy532
          by_cases c24 : y532.length < 140737488355328
          ·rw [if_pos c24] at H
           have LMc24 := Aside0.mk c24
           clear c24
           obtain ⟨y535, hy535⟩ : ∃ y_ : List Int, y_ = (y532 ++ [a2]) := ⟨_, rfl⟩
           replace H : ((stream_Take.f kj16 y535).bind fun bt538 => (if a2 = 0 then (if x10_16 < (t515.length : Int) then ((stream_Take.f kj16 (t515.set (x10_16 : Int).toNat (Go.bits .xor .u8 (rd t515 x10_16) 1))).bind fun bt545 => (if t511 = true then (if t528 = 26 then (if bt538.2.2 = 26 then (some (bt545.2.2 == 26)) else (some false)) else (some false)) else (some false))) else (none)) else (if x10_16 < (t515.length : Int) then ((stream_Take.f kj16 (t515.set (x10_16 : Int).toNat (Go.bits .xor .u8 (rd t515 x10_16) a2))).bind fun bt552 => (if t511 = true then (if t528 = 26 then (if bt538.2.2 = 26 then (some (bt552.2.2 == 26)) else (some false)) else (some false)) else (some false))) else (none)))) = some r := by first | (rw [hy535]; with_reducible exact H) | (have H2_ := (Option.bind_some _ _).symm.trans H; rw [hy535]; with_reducible exact H2_) | (have H2_ := (Option.bind_some _ _).symm.trans H; with_reducible exact H2_) | with_reducible exact H | (rw [hy535]; exact H) | exact H
           have Ny535 := Aside0.mk hy535
           clear hy535
           replace H := Option.bind_eq_some_iff.mp H
           obtain ⟨⟨t538, t541, t542⟩, A250, H⟩ := H
           replace H : (if a2 = 0 then (if x10_16 < (t515.length : Int) then ((stream_Take.f kj16 (t515.set (x10_16 : Int).toNat (Go.bits .xor .u8 (rd t515 x10_16) 1))).bind fun bt545 => (if t511 = true then (if t528 = 26 then (if t542 = 26 then (some (bt545.2.2 == 26)) else (some false)) else (some false)) else (some false))) else (none)) else (if x10_16 < (t515.length : Int) then ((stream_Take.f kj16 (t515.set (x10_16 : Int).toNat (Go.bits .xor .u8 (rd t515 x10_16) a2))).bind fun bt552 => (if t511 = true then (if t528 = 26 then (if t542 = 26 then (some (bt552.2.2 == 26)) else (some false)) else (some false)) else (some false))) else (none))) = some r := H
           have A25 := Aside0.mk A250
           clear A250
           by_cases c26 : a2 = 0
           ·rw [if_pos c26] at H
            have c26b0 : (a2 == 0) = true := beq_iff_eq.mpr c26
            have c26b1 : (a2 != 0) = false := bne_eq_false_iff_eq.mpr c26
            clear c26
            by_cases c27 : x10_16 < (t515.length : Int)
            ·rw [if_pos c27] at H
             have c27b0 : decide (x10_16 < (t515.length : Int)) = true := decide_eq_true c27
             clear c27
             obtain ⟨y544, hy544⟩ : ∃ y_ : List Int, y_ = (t515.set (x10_16 : Int).toNat (Go.bits .xor .u8 (rd t515 x10_16) 1)) := ⟨_, rfl⟩
             replace H : ((stream_Take.f kj16 y544).bind fun bt545 => (if t511 = true then (if t528 = 26 then (if t542 = 26 then (some (bt545.2.2 == 26)) else (some false)) else (some false)) else (some false))) = some r := by first | (rw [hy544]; with_reducible exact H) | (have H2_ := (Option.bind_some _ _).symm.trans H; rw [hy544]; with_reducible exact H2_) | (have H2_ := (Option.bind_some _ _).symm.trans H; with_reducible exact H2_) | with_reducible exact H | (rw [hy544]; exact H) | exact H
             have Ny544 := Aside0.mk hy544
             clear hy544
             replace H := Option.bind_eq_some_iff.mp H
             obtain ⟨⟨t545, t548, t549⟩, A290, H⟩ := H
             replace H : (if t511 = true then (if t528 = 26 then (if t542 = 26 then (some (t549 == 26)) else (some false)) else (some false)) else (some false)) = some r := H
             have A29 := Aside0.mk A290
             clear A290
             by_cases c30 : t511 = true
             ·subst c30
              have H1 : (if t528 = 26 then (if t542 = 26 then (some (t549 == 26)) else (some false)) else (some false)) = some r := by rw [if_pos rfl] at H; exact H
              clear H
              have H := H1
              clear H1
              by_cases c31 : t528 = 26
              ·rw [if_pos c31] at H
               have c31b0 : (t528 == 26) = true := beq_iff_eq.mpr c31
               have c31b1 : (t528 != 26) = false := bne_eq_false_iff_eq.mpr c31
               clear c31
               by_cases c32 : t542 = 26
               ·rw [if_pos c32] at H
                have c32b0 : (t542 == 26) = true := beq_iff_eq.mpr c32
                have c32b1 : (t542 != 26) = false := bne_eq_false_iff_eq.mpr c32
                clear c32
                obtain rfl := Option.some.inj H
                have q33 : (x10_16 : Int) ≤ ((t515.length : Int) : Int) := of_decide_eq_true q7_
                obtain ⟨i033, hi033, _, hsz33, _⟩ := info_parts info5
                have hroom33 : t515.length ≤ co18 := (Kd.R_reads' HO_8.out).2.1
                have hC33 : Kd.F (Kd.int .u8) _ _ Ao18 t515.length t515 := (Kd.V_at (base := w.heap.size) (Kd.R_V HO_8.out)).2.2
                have hcut33 := cut_to (P := Tryd.prog) 35 5 .i64 Tryd.underlying35 hi033 Ao18 t515.length co18 x10_16 (of_decide_eq_true q7_) q33 hroom33
                have hr33 := Kd.F_take (m := (x10_16 : Int).toNat) hC33 (by omega)
                have hy33 : y519.length = (x10_16 : Int).toNat := (by rw [Ny519.out, List.length_take]; omega)
                rw [← Ny519.out] at hr33
                rw [← hy33] at hcut33
                have HO523 := Aside0.mk (show Kd.V (Kd.int .u8) 5 _ w.heap.size _ (.slice Ao18 y519.length co18) y519 from Kd.V_mk (by omega) hr33)
                have HC523 := Aside0.mk (show y519.length ≤ co18 from by omega)
                clear hr33 hC33 hroom33 hi033 hsz33
                have KY33 := Aside0.mk hy33
                clear hy33
                replace q33 := eq_true q33
                go_wp2_with (first | ((with_reducible refine gate_callee (f := 21) rfl ?_); refine goesL_ (some 51) rfl rfl Tryd.func21 q18_ rfl #[.slice Ao18 y519.length co18] rfl q1_ ?_; (with_reducible refine (stream_Take.calls kj16 _ _ y519 t524 t527 t528 _ ?side1 ?side2 A22.out).mono ?_); (case side1 => repeat (first | exact (Kd.V_reads' HO523.out).2.2 | (with_reducible refine Kd.C_alloc ?_ _) | (with_reducible refine Kd.C_drewN ?_ _) | (with_reducible refine Kd.C_drew ?_))); (case side2 => exact (Kd.V_reads' HO523.out).2.1); rintro e w34 ⟨v525, rfl, ho0, hb⟩; refine ⟨_, rfl, ?_⟩; have n0_ := Aside0.mk (Kd.R_below q11_ hb); have n1_ := Aside0.mk (Kd.V_below q45_ hb); have n2_ := Aside0.mk (Kd.V_lower (Kd.V_mono (ok' := fun k_ => some k_ ≠ (.slice Ao18 t515.length co18 : Value).ownBlock) ho0 (fun k_ hk_ => (Kd.fresh' (Kd.R_lt q11_) k_ hk_))) (below_size q0_)); have n3_ := Aside0.mk (below_step q0_ hb); clear HO_8; clear HO523; clear HB; have HO_8 := n0_; have HO523 := n1_; have HO526 := n2_; have HB := n3_; clear n0_ n1_ n2_ n3_; (try clear hb); (try clear hb2); (try clear hk); (try clear hi); (try clear ho0)) | ((with_reducible refine gate_dst (N := 56) rfl ?_); (try (refine gate_guard (by rfl) ?_; dsimp only)); refine Kd.R_lit (Kd.int .u8) _ 5 ?hg (N := 56) ?hd (xs := ([] : List Int)) (inner := []) (ok := fun _ => True) (okp := fun _ => True) ?hr ?hp (fun _ hk => hk) trivial (Below.refl _ _) (Nat.le_refl _) (by simp) ?_; (case hd => rfl); (case hg => rfl); (case hr => first | (go_simp; done) | (go_simp; rfl)); (case hp => exact (Reps.none _ _)); intro v530 w35 ho36 hb hg_ hnew_; clear hg_ hnew_; (first | rw [← Ny529.out] at ho36 | (simp only [Int.reduceToNat] at ho36; rw [← Ny529.out] at ho36)); have n0_ := Aside0.mk (Kd.R_elder' q11_ (Kd.R_base ho36) hb); have n1_ := Aside0.mk (Kd.V_elder' q45_ (Kd.R_base ho36) hb); have n2_ := Aside0.mk (Kd.V_elder' q46_ (Kd.R_base ho36) hb); have n3_ := Aside0.mk (Kd.R_lower (Kd.R_new' ho36 (Kd.R_lt q11_)) (below_size q0_)); have n4_ := Aside0.mk (below_step q0_ hb); clear HO_8; clear HO523; clear HO526; clear HB; have HO_8 := n0_; have HO523 := n1_; have HO526 := n2_; have HO531 := n3_; have HB := n4_; clear n0_ n1_ n2_ n3_ n4_; clear hb ho36) | ((with_reducible refine gate_builtin (b := .append) (xs := #[.tmp 56, .tmp 57]) rfl ?_); (try (refine gate_guard (by rfl) ?_; dsimp only)); at_builtin; refine Kd.R_append_rows (Kd.int .u8) (w0 := w) w.heap.size rfl (.tmp 56) (.tmp 57) 35 5 (.int .u8 0) 1 rfl Tryd.underlying35 info5 rfl q81_ (by omega) v530 y529 t515 _ _ _ (fun k_ => some k_ ≠ (.slice Ao18 t515.length co18 : Value).ownBlock) (fun _ => False) rfl rfl ?aO ?aR (fun _ _ h => h) (fun _ h => h.elim) ?aF ?aB ?aS ?aL ?_; (case aR => repeat (first | exact (Kd.R_reads' HO_8.out).2.2 | (with_reducible refine Kd.C_alloc ?_ _) | (with_reducible refine Kd.C_drewN ?_ _) | (with_reducible refine Kd.C_drew ?_))); (case aB => exact q0_); (case aF => exact (fun k_ hk => Kd.fresh' (Kd.R_lt q11_) k_ hk)); (case aO => exact (by (with_reducible repeat (first | apply Kd.R_alloc | apply Kd.R_drewN | apply Kd.R_drew)); exact Kd.R_mono HO531.out (fun _ hk => hk.2))); (case aS => exact (below_size q0_)); (case aL => have := LMc23.out; omega); intro v533 w37 ho hb hg hat; rw [← Ny532.out] at ho; have n0_ := Aside0.mk (Kd.R_after (ok := (fun _ => True)) q11_ hg hat); have n1_ := Aside0.mk (Kd.V_afterv (ok := (fun _ => True)) q45_ hg hat); have n2_ := Aside0.mk (Kd.V_afterv (ok := (fun k_ => some k_ ≠ (.slice Ao18 t515.length co18 : Value).ownBlock)) q46_ hg hat); have n3_ := Aside0.mk (hb); have n4_ := Aside0.mk (ho); clear HO_8; clear HO523; clear HO526; clear HB; clear HO531; have HO_8 := n0_; have HO523 := n1_; have HO526 := n2_; have HB := n3_; have HO534 := n4_; clear n0_ n1_ n2_ n3_ n4_; clear ho hb hg hat) | ((with_reducible refine gate_builtin (b := .append) (xs := #[.tmp 58, .tmp 60]) rfl ?_); (try (refine gate_guard (by rfl) ?_; dsimp only)); at_builtin; refine Kd.R_append (Kd.int .u8) (w0 := w) w.heap.size rfl (.tmp 58) (.tmp 60) 35 5 (.int .u8 0) 1 rfl Tryd.underlying35 info5 rfl q81_ (by omega) v533 y532 a2 [.int .u8 a2] (fun k_ => some k_ ≠ (.slice Ao18 t515.length co18 : Value).ownBlock) (fun _ => False) rfl rfl ?aP (fun _ hk => hk.elim) ?aF ?aO ?aB ?aS ?aL ?_; (case aP => exact rfl); (case aB => exact q0_); (case aF => exact (fun k_ hk => Kd.fresh' (Kd.R_lt q11_) k_ hk)); (case aO => exact (by (with_reducible repeat (first | apply Kd.R_alloc | apply Kd.R_drewN | apply Kd.R_drew)); exact HO534.out)); (case aS => exact (below_size q0_)); (case aL => have := LMc24.out; omega); intro v536 w38 ho hb hg hat; rw [← Ny535.out] at ho; have n0_ := Aside0.mk (Kd.R_after (ok := (fun _ => True)) q11_ hg hat); have n1_ := Aside0.mk (Kd.V_afterv (ok := (fun _ => True)) q45_ hg hat); have n2_ := Aside0.mk (Kd.V_afterv (ok := (fun k_ => some k_ ≠ (.slice Ao18 t515.length co18 : Value).ownBlock)) q46_ hg hat); have n3_ := Aside0.mk (hb); have n4_ := Aside0.mk (ho); clear HO_8; clear HO523; clear HO526; clear HB; clear HO534; have HO_8 := n0_; have HO523 := n1_; have HO526 := n2_; have HB := n3_; have HO537 := n4_; clear n0_ n1_ n2_ n3_ n4_; clear ho hb hg hat; obtain ⟨Ao39, co39, eo39⟩ := Kd.R_slice HO537.out; subst eo39) | ((with_reducible refine gate_callee (f := 21) rfl ?_); refine goesL_ (some 62) rfl rfl Tryd.func21 q18_ rfl #[.slice Ao39 y535.length co39] rfl q1_ ?_; (with_reducible refine (stream_Take.calls kj16 _ _ y535 t538 t541 t542 _ ?side1 ?side2 A25.out).mono ?_); (case side1 => repeat (first | exact (Kd.R_reads' HO537.out).2.2 | (with_reducible refine Kd.C_alloc ?_ _) | (with_reducible refine Kd.C_drewN ?_ _) | (with_reducible refine Kd.C_drew ?_))); (case side2 => exact (Kd.R_reads' HO537.out).2.1); rintro e w40 ⟨v539, rfl, ho0, hb⟩; refine ⟨_, rfl, ?_⟩; have n0_ := Aside0.mk (Kd.R_below q11_ hb); have n1_ := Aside0.mk (Kd.V_below q45_ hb); have n2_ := Aside0.mk (Kd.V_below q46_ hb); have n3_ := Aside0.mk (Kd.R_below q56_ hb); have n4_ := Aside0.mk (Kd.V_lower (Kd.V_mono (ok' := fun k_ => some k_ ≠ (.slice Ao18 t515.length co18 : Value).ownBlock ∧ some k_ ≠ (.slice Ao39 y535.length co39 : Value).ownBlock) ho0 (fun k_ hk_ => ⟨(Kd.fresh' (Kd.R_lt q11_) k_ hk_), (Kd.fresh' (Kd.R_lt q56_) k_ hk_)⟩)) (below_size q0_)); have n5_ := Aside0.mk (below_step q0_ hb); clear HO_8; clear HO523; clear HO526; clear HO537; clear HB; have HO_8 := n0_; have HO523 := n1_; have HO526 := n2_; have HO537 := n3_; have HO540 := n4_; have HB := n5_; clear n0_ n1_ n2_ n3_ n4_ n5_; (try clear hb); (try clear hb2); (try clear hk); (try clear hi); (try clear ho0); have p543 : 0 ≤ (x10_16 : Int) := of_decide_eq_true q7_; have q543 : x10_16 < (t515.length : Int) := of_decide_eq_true q7_; obtain ⟨ad543, e543, hx543_0⟩ := Kd.at_int (Kd.R_reads' HO_8.out).2.2 x10_16 p543 q543; cases e543; replace p543 := eq_true p543; replace q543 := eq_true q543; have p28 : 0 ≤ (x10_16 : Int) := of_decide_eq_true q7_; have q28 : (x10_16 : Int) < ((t515.length : Int) : Int) := of_decide_eq_true q7_; obtain ⟨go28, co28, eo28, gb28, gl28, cl28, HG28⟩ := Kd.R_form HO_8.out (by omega); (first | cases eo28 | (injection eo28 with ea_ en_ ec_; (first | subst ea_ | (injection ea_ with ea_; subst ea_)); subst ec_; clear en_)); have GB28 := Aside0.mk gb28; have GG28 := Aside0.mk HG28; clear gb28 gl28 HG28; (first | simp only [add_plain] at hx543_0 | skip); obtain ⟨hx28_0, hf28_0⟩ := Kd.R_celln 0 HO_8.out (x10_16 : Int) p28 q28; replace p28 := eq_true p28; replace q28 := eq_true q28; have n_ := Aside0.mk (Kd.R_mono (ok' := (fun k_ => some k_ ≠ (.slice Ao39 y535.length co39 : Value).ownBlock)) HO_8.out (fun k_ hk => hk.2)); clear HO_8; have HO_8 := n_; clear n_; obtain ⟨hy41_, hz41_⟩ := Kd.R_celln 0 HO_8.out (x10_16 : Int) (of_decide_eq_true q7_) (of_decide_eq_true q7_); have HP41 := Kd.R_putg HO_8.out (x10_16 : Int) (Go.bits .xor .u8 (rd t515 x10_16) 1)) | ((with_reducible refine gate_store (t := 5) (p := 76) rfl ?_); refine store_event (t := 5) (p := 76) (v := ?vo_w42) (w1 := (w40.setCell ⟨go28, (x10_16 : Int).toNat, none⟩ (.int .u8 (Go.bits .xor .u8 (rd t515 x10_16) 1)))) ?hg ?ho ?hn ?hr ?_; (case ho => rfl); (case hg => rfl); (case hn => rfl); (case hr => first | (go_simp; done) | (go_simp; rfl)); intro w42 hw; have hg : w40.grownBy w42 (some go28) := (by rw [hw]; exact HP41.2); have hp_ : Kd.R (Kd.int .u8) 5 w42 w.heap.size (fun k_ => some k_ ≠ (.slice Ao39 y535.length co39 : Value).ownBlock) (.slice (some ⟨go28, 0, none⟩) t515.length co18) y544 := (by rw [hw, Ny544.out]; exact HP41.1); clear HP41; have n0_ := Aside0.mk (hp_); have n1_ := Aside0.mk (Kd.V_afterv (v := (.slice (some ⟨go28, 0, none⟩) t515.length co18)) (v1 := (.slice (some ⟨go28, 0, none⟩) t515.length co18)) (ok := (fun k_ => some k_ ≠ (.slice Ao39 y535.length co39 : Value).ownBlock)) (by (with_reducible repeat (first | apply Kd.V_alloc | apply Kd.V_drewN | apply Kd.V_drew)); exact Kd.V_mono HO526.out (fun _ hk => ⟨hk.2, hk.1⟩)) hg (.inl rfl)); have n2_ := Aside0.mk (Kd.R_after (v := (.slice (some ⟨go28, 0, none⟩) t515.length co18)) (v1 := (.slice (some ⟨go28, 0, none⟩) t515.length co18)) (ok := (fun _ => True)) (by (with_reducible repeat (first | apply Kd.R_alloc | apply Kd.R_drewN | apply Kd.R_drew)); exact Kd.R_mono HO537.out (fun _ hk => ⟨trivial, hk⟩)) hg (.inl rfl)); have n3_ := Aside0.mk (Kd.V_afterv (v := (.slice (some ⟨go28, 0, none⟩) t515.length co18)) (v1 := (.slice (some ⟨go28, 0, none⟩) t515.length co18)) (ok := (fun k_ => some k_ ≠ (.slice Ao39 y535.length co39 : Value).ownBlock)) (by (with_reducible repeat (first | apply Kd.V_alloc | apply Kd.V_drewN | apply Kd.V_drew)); exact Kd.V_mono HO540.out (fun _ hk => ⟨hk.2, hk.1⟩)) hg (.inl rfl)); have n4_ := Aside0.mk ((by rw [hw]; exact below_set (HB.out) GB28.out : Below w.heap.size w w42)); clear HO_8; clear HO526; clear HO537; clear HO540; clear HB; have HO_8 := n0_; have HO526 := n1_; have HO537 := n2_; have HO540 := n3_; have HB := n4_; clear n0_ n1_ n2_ n3_ n4_; clear hg hw hp_) | ((with_reducible refine gate_callee (f := 21) rfl ?_); refine goesL_ (some 79) rfl rfl Tryd.func21 q18_ rfl #[.slice (some ⟨go28, 0, none⟩) y544.length co18] rfl (by (try simp only [List.map_toArray, List.map_cons, List.map_nil]); first | done | (rw [show y544.length = t515.length from (Kd.R_reads' HO_8.out).1.symm] <;> rfl) | rfl | (simp only [List.length_drop, List.length_take]; rfl)) ?_; (with_reducible refine (stream_Take.calls kj16 _ _ y544 t545 t548 t549 _ ?side1 ?side2 A29.out).mono ?_); (case side1 => repeat (first | exact (Kd.R_reads' HO_8.out).2.2 | (with_reducible refine Kd.C_alloc ?_ _) | (with_reducible refine Kd.C_drewN ?_ _) | (with_reducible refine Kd.C_drew ?_))); (case side2 => rw [show y544.length = t515.length from (Kd.R_reads' HO_8.out).1.symm]; exact (Kd.R_reads' HO_8.out).2.1); rintro e w43 ⟨v546, rfl, ho0, hb⟩; refine ⟨_, rfl, ?_⟩; have n0_ := Aside0.mk (Kd.R_below q11_ hb); have n1_ := Aside0.mk (Kd.V_below q46_ hb); have n2_ := Aside0.mk (Kd.R_below q56_ hb); have n3_ := Aside0.mk (Kd.V_below (by (with_reducible repeat (first | apply Kd.V_alloc | apply Kd.V_drewN | apply Kd.V_drew)); exact HO540.out) hb); have n4_ := Aside0.mk (Kd.V_lower (Kd.V_mono (ok' := fun k_ => some k_ ≠ (.slice (some ⟨go28, 0, none⟩) t515.length co18 : Value).ownBlock ∧ some k_ ≠ (.slice Ao39 y535.length co39 : Value).ownBlock) ho0 (fun k_ hk_ => ⟨(Kd.fresh' (Kd.R_lt q11_) k_ hk_), (Kd.fresh' (Kd.R_lt q56_) k_ hk_)⟩)) (below_size q0_)); have n5_ := Aside0.mk (below_step q0_ hb); clear HO_8; clear HO526; clear HO537; clear HO540; clear HB; have HO_8 := n0_; have HO526 := n1_; have HO537 := n2_; have HO540 := n3_; have HO547 := n4_; have HB := n5_; clear n0_ n1_ n2_ n3_ n4_ n5_; (try clear hb); (try clear hb2); (try clear hk); (try clear hi); (try clear ho0)))
                go_ret
                exact ⟨q9_, by repeat (first | (with_reducible first | exact HB.out | apply below_alloc | apply pw_below_drewN | apply below_drew1) | exact HB.out)⟩
               ·rw [if_neg c32] at H
                have c32b0 : (t542 == 26) = false := beq_eq_false_iff_ne.mpr c32
                have c32b1 : (t542 != 26) = true := bne_iff_ne.mpr c32
                exact absurd (Option.some.inj H) (by rw [hr_.out]; decide)
              ·rw [if_neg c31] at H
               have c31b0 : (t528 == 26) = false := beq_eq_false_iff_ne.mpr c31
               have c31b1 : (t528 != 26) = true := bne_iff_ne.mpr c31
               exact absurd (Option.some.inj H) (by rw [hr_.out]; decide)
             ·replace c30 := Bool.eq_false_iff.mpr c30
              subst c30
              have H1 : (some false) = some r := by rw [if_neg (show ¬ (false = true) by decide)] at H; exact H
              clear H
              have H := H1
              clear H1
              exact absurd (Option.some.inj H) (by rw [hr_.out]; decide)
            ·rw [if_neg c27] at H
             exact absurd H (by simp)
           ·rw [if_neg c26] at H
            have c26b0 : (a2 == 0) = false := beq_eq_false_iff_ne.mpr c26
            have c26b1 : (a2 != 0) = true := bne_iff_ne.mpr c26
            by_cases c44 : x10_16 < (t515.length : Int)
            ·rw [if_pos c44] at H
             have c44b0 : decide (x10_16 < (t515.length : Int)) = true := decide_eq_true c44
             clear c44
             obtain ⟨y551, hy551⟩ : ∃ y_ : List Int, y_ = (t515.set (x10_16 : Int).toNat (Go.bits .xor .u8 (rd t515 x10_16) a2)) := ⟨_, rfl⟩
             replace H : ((stream_Take.f kj16 y551).bind fun bt552 => (if t511 = true then (if t528 = 26 then (if t542 = 26 then (some (bt552.2.2 == 26)) else (some false)) else (some false)) else (some false))) = some r := by first | (rw [hy551]; with_reducible exact H) | (have H2_ := (Option.bind_some _ _).symm.trans H; rw [hy551]; with_reducible exact H2_) | (have H2_ := (Option.bind_some _ _).symm.trans H; with_reducible exact H2_) | with_reducible exact H | (rw [hy551]; exact H) | exact H
             have Ny551 := Aside0.mk hy551
             clear hy551
             replace H := Option.bind_eq_some_iff.mp H
             obtain ⟨⟨t552, t555, t556⟩, A460, H⟩ := H
             replace H : (if t511 = true then (if t528 = 26 then (if t542 = 26 then (some (t556 == 26)) else (some false)) else (some false)) else (some false)) = some r := H
             have A46 := Aside0.mk A460
             clear A460
             by_cases c47 : t511 = true
             ·subst c47
              have H1 : (if t528 = 26 then (if t542 = 26 then (some (t556 == 26)) else (some false)) else (some false)) = some r := by rw [if_pos rfl] at H; exact H
              clear H
              have H := H1
              clear H1
              by_cases c48 : t528 = 26
              ·rw [if_pos c48] at H
               have c48b0 : (t528 == 26) = true := beq_iff_eq.mpr c48
               have c48b1 : (t528 != 26) = false := bne_eq_false_iff_eq.mpr c48
               clear c48
               by_cases c49 : t542 = 26
               ·rw [if_pos c49] at H
                have c49b0 : (t542 == 26) = true := beq_iff_eq.mpr c49
                have c49b1 : (t542 != 26) = false := bne_eq_false_iff_eq.mpr c49
                clear c49
                obtain rfl := Option.some.inj H
                have q50 : (x10_16 : Int) ≤ ((t515.length : Int) : Int) := of_decide_eq_true q7_
                obtain ⟨i050, hi050, _, hsz50, _⟩ := info_parts info5
                have hroom50 : t515.length ≤ co18 := (Kd.R_reads' HO_8.out).2.1
                have hC50 : Kd.F (Kd.int .u8) _ _ Ao18 t515.length t515 := (Kd.V_at (base := w.heap.size) (Kd.R_V HO_8.out)).2.2
                (try clear hcut33); have hcut50 := cut_to (P := Tryd.prog) 35 5 .i64 Tryd.underlying35 hi050 Ao18 t515.length co18 x10_16 (of_decide_eq_true q7_) q50 hroom50
                have hr50 := Kd.F_take (m := (x10_16 : Int).toNat) hC50 (by omega)
                have hy50 : y519.length = (x10_16 : Int).toNat := (by rw [Ny519.out, List.length_take]; omega)
                rw [← Ny519.out] at hr50
                rw [← hy50] at hcut50
                have HO523 := Aside0.mk (show Kd.V (Kd.int .u8) 5 _ w.heap.size _ (.slice Ao18 y519.length co18) y519 from Kd.V_mk (by omega) hr50)
                have HC523 := Aside0.mk (show y519.length ≤ co18 from by omega)
                clear hr50 hC50 hroom50 hi050 hsz50
                have KY50 := Aside0.mk hy50
                clear hy50
                replace q50 := eq_true q50
                go_wp2_with (first | ((with_reducible refine gate_callee (f := 21) rfl ?_); refine goesL_ (some 51) rfl rfl Tryd.func21 q18_ rfl #[.slice Ao18 y519.length co18] rfl q1_ ?_; (with_reducible refine (stream_Take.calls kj16 _ _ y519 t524 t527 t528 _ ?side1 ?side2 A22.out).mono ?_); (case side1 => repeat (first | exact (Kd.V_reads' HO523.out).2.2 | (with_reducible refine Kd.C_alloc ?_ _) | (with_reducible refine Kd.C_drewN ?_ _) | (with_reducible refine Kd.C_drew ?_))); (case side2 => exact (Kd.V_reads' HO523.out).2.1); rintro e w51 ⟨v525, rfl, ho0, hb⟩; refine ⟨_, rfl, ?_⟩; have n0_ := Aside0.mk (Kd.R_below q11_ hb); have n1_ := Aside0.mk (Kd.V_below q45_ hb); have n2_ := Aside0.mk (Kd.V_lower (Kd.V_mono (ok' := fun k_ => some k_ ≠ (.slice Ao18 t515.length co18 : Value).ownBlock) ho0 (fun k_ hk_ => (Kd.fresh' (Kd.R_lt q11_) k_ hk_))) (below_size q0_)); have n3_ := Aside0.mk (below_step q0_ hb); clear HO_8; clear HO523; clear HB; have HO_8 := n0_; have HO523 := n1_; have HO526 := n2_; have HB := n3_; clear n0_ n1_ n2_ n3_; (try clear hb); (try clear hb2); (try clear hk); (try clear hi); (try clear ho0)) | ((with_reducible refine gate_dst (N := 56) rfl ?_); (try (refine gate_guard (by rfl) ?_; dsimp only)); refine Kd.R_lit (Kd.int .u8) _ 5 ?hg (N := 56) ?hd (xs := ([] : List Int)) (inner := []) (ok := fun _ => True) (okp := fun _ => True) ?hr ?hp (fun _ hk => hk) trivial (Below.refl _ _) (Nat.le_refl _) (by simp) ?_; (case hd => rfl); (case hg => rfl); (case hr => first | (go_simp; done) | (go_simp; rfl)); (case hp => exact (Reps.none _ _)); intro v530 w52 ho53 hb hg_ hnew_; clear hg_ hnew_; (first | rw [← Ny529.out] at ho53 | (simp only [Int.reduceToNat] at ho53; rw [← Ny529.out] at ho53)); have n0_ := Aside0.mk (Kd.R_elder' q11_ (Kd.R_base ho53) hb); have n1_ := Aside0.mk (Kd.V_elder' q45_ (Kd.R_base ho53) hb); have n2_ := Aside0.mk (Kd.V_elder' q46_ (Kd.R_base ho53) hb); have n3_ := Aside0.mk (Kd.R_lower (Kd.R_new' ho53 (Kd.R_lt q11_)) (below_size q0_)); have n4_ := Aside0.mk (below_step q0_ hb); clear HO_8; clear HO523; clear HO526; clear HB; have HO_8 := n0_; have HO523 := n1_; have HO526 := n2_; have HO531 := n3_; have HB := n4_; clear n0_ n1_ n2_ n3_ n4_; clear hb ho53) | ((with_reducible refine gate_builtin (b := .append) (xs := #[.tmp 56, .tmp 57]) rfl ?_); (try (refine gate_guard (by rfl) ?_; dsimp only)); at_builtin; refine Kd.R_append_rows (Kd.int .u8) (w0 := w) w.heap.size rfl (.tmp 56) (.tmp 57) 35 5 (.int .u8 0) 1 rfl Tryd.underlying35 info5 rfl q81_ (by omega) v530 y529 t515 _ _ _ (fun k_ => some k_ ≠ (.slice Ao18 t515.length co18 : Value).ownBlock) (fun _ => False) rfl rfl ?aO ?aR (fun _ _ h => h) (fun _ h => h.elim) ?aF ?aB ?aS ?aL ?_; (case aR => repeat (first | exact (Kd.R_reads' HO_8.out).2.2 | (with_reducible refine Kd.C_alloc ?_ _) | (with_reducible refine Kd.C_drewN ?_ _) | (with_reducible refine Kd.C_drew ?_))); (case aB => exact q0_); (case aF => exact (fun k_ hk => Kd.fresh' (Kd.R_lt q11_) k_ hk)); (case aO => exact (by (with_reducible repeat (first | apply Kd.R_alloc | apply Kd.R_drewN | apply Kd.R_drew)); exact Kd.R_mono HO531.out (fun _ hk => hk.2))); (case aS => exact (below_size q0_)); (case aL => have := LMc23.out; omega); intro v533 w54 ho hb hg hat; rw [← Ny532.out] at ho; have n0_ := Aside0.mk (Kd.R_after (ok := (fun _ => True)) q11_ hg hat); have n1_ := Aside0.mk (Kd.V_afterv (ok := (fun _ => True)) q45_ hg hat); have n2_ := Aside0.mk (Kd.V_afterv (ok := (fun k_ => some k_ ≠ (.slice Ao18 t515.length co18 : Value).ownBlock)) q46_ hg hat); have n3_ := Aside0.mk (hb); have n4_ := Aside0.mk (ho); clear HO_8; clear HO523; clear HO526; clear HB; clear HO531; have HO_8 := n0_; have HO523 := n1_; have HO526 := n2_; have HB := n3_; have HO534 := n4_; clear n0_ n1_ n2_ n3_ n4_; clear ho hb hg hat) | ((with_reducible refine gate_builtin (b := .append) (xs := #[.tmp 58, .tmp 60]) rfl ?_); (try (refine gate_guard (by rfl) ?_; dsimp only)); at_builtin; refine Kd.R_append (Kd.int .u8) (w0 := w) w.heap.size rfl (.tmp 58) (.tmp 60) 35 5 (.int .u8 0) 1 rfl Tryd.underlying35 info5 rfl q81_ (by omega) v533 y532 a2 [.int .u8 a2] (fun k_ => some k_ ≠ (.slice Ao18 t515.length co18 : Value).ownBlock) (fun _ => False) rfl rfl ?aP (fun _ hk => hk.elim) ?aF ?aO ?aB ?aS ?aL ?_; (case aP => exact rfl); (case aB => exact q0_); (case aF => exact (fun k_ hk => Kd.fresh' (Kd.R_lt q11_) k_ hk)); (case aO => exact (by (with_reducible repeat (first | apply Kd.R_alloc | apply Kd.R_drewN | apply Kd.R_drew)); exact HO534.out)); (case aS => exact (below_size q0_)); (case aL => have := LMc24.out; omega); intro v536 w55 ho hb hg hat; rw [← Ny535.out] at ho; have n0_ := Aside0.mk (Kd.R_after (ok := (fun _ => True)) q11_ hg hat); have n1_ := Aside0.mk (Kd.V_afterv (ok := (fun _ => True)) q45_ hg hat); have n2_ := Aside0.mk (Kd.V_afterv (ok := (fun k_ => some k_ ≠ (.slice Ao18 t515.length co18 : Value).ownBlock)) q46_ hg hat); have n3_ := Aside0.mk (hb); have n4_ := Aside0.mk (ho); clear HO_8; clear HO523; clear HO526; clear HB; clear HO534; have HO_8 := n0_; have HO523 := n1_; have HO526 := n2_; have HB := n3_; have HO537 := n4_; clear n0_ n1_ n2_ n3_ n4_; clear ho hb hg hat; obtain ⟨Ao56, co56, eo56⟩ := Kd.R_slice HO537.out; subst eo56) | ((with_reducible refine gate_callee (f := 21) rfl ?_); refine goesL_ (some 62) rfl rfl Tryd.func21 q18_ rfl #[.slice Ao56 y535.length co56] rfl q1_ ?_; (with_reducible refine (stream_Take.calls kj16 _ _ y535 t538 t541 t542 _ ?side1 ?side2 A25.out).mono ?_); (case side1 => repeat (first | exact (Kd.R_reads' HO537.out).2.2 | (with_reducible refine Kd.C_alloc ?_ _) | (with_reducible refine Kd.C_drewN ?_ _) | (with_reducible refine Kd.C_drew ?_))); (case side2 => exact (Kd.R_reads' HO537.out).2.1); rintro e w57 ⟨v539, rfl, ho0, hb⟩; refine ⟨_, rfl, ?_⟩; have n0_ := Aside0.mk (Kd.R_below q11_ hb); have n1_ := Aside0.mk (Kd.V_below q45_ hb); have n2_ := Aside0.mk (Kd.V_below q46_ hb); have n3_ := Aside0.mk (Kd.R_below q56_ hb); have n4_ := Aside0.mk (Kd.V_lower (Kd.V_mono (ok' := fun k_ => some k_ ≠ (.slice Ao18 t515.length co18 : Value).ownBlock ∧ some k_ ≠ (.slice Ao56 y535.length co56 : Value).ownBlock) ho0 (fun k_ hk_ => ⟨(Kd.fresh' (Kd.R_lt q11_) k_ hk_), (Kd.fresh' (Kd.R_lt q56_) k_ hk_)⟩)) (below_size q0_)); have n5_ := Aside0.mk (below_step q0_ hb); clear HO_8; clear HO523; clear HO526; clear HO537; clear HB; have HO_8 := n0_; have HO523 := n1_; have HO526 := n2_; have HO537 := n3_; have HO540 := n4_; have HB := n5_; clear n0_ n1_ n2_ n3_ n4_ n5_; (try clear hb); (try clear hb2); (try clear hk); (try clear hi); (try clear ho0); have p550 : 0 ≤ (x10_16 : Int) := of_decide_eq_true q7_; have q550 : x10_16 < (t515.length : Int) := of_decide_eq_true q7_; obtain ⟨ad550, e550, hx550_0⟩ := Kd.at_int (Kd.R_reads' HO_8.out).2.2 x10_16 p550 q550; cases e550; replace p550 := eq_true p550; replace q550 := eq_true q550; have p45 : 0 ≤ (x10_16 : Int) := of_decide_eq_true q7_; have q45 : (x10_16 : Int) < ((t515.length : Int) : Int) := of_decide_eq_true q7_; obtain ⟨go45, co45, eo45, gb45, gl45, cl45, HG45⟩ := Kd.R_form HO_8.out (by omega); (first | cases eo45 | (injection eo45 with ea_ en_ ec_; (first | subst ea_ | (injection ea_ with ea_; subst ea_)); subst ec_; clear en_)); have GB45 := Aside0.mk gb45; have GG45 := Aside0.mk HG45; clear gb45 gl45 HG45; (first | simp only [add_plain] at hx550_0 | skip); obtain ⟨hx45_0, hf45_0⟩ := Kd.R_celln 0 HO_8.out (x10_16 : Int) p45 q45; replace p45 := eq_true p45; replace q45 := eq_true q45; have n_ := Aside0.mk (Kd.R_mono (ok' := (fun k_ => some k_ ≠ (.slice Ao56 y535.length co56 : Value).ownBlock)) HO_8.out (fun k_ hk => hk.2)); clear HO_8; have HO_8 := n_; clear n_; obtain ⟨hy58_, hz58_⟩ := Kd.R_celln 0 HO_8.out (x10_16 : Int) (of_decide_eq_true q7_) (of_decide_eq_true q7_); have HP58 := Kd.R_putg HO_8.out (x10_16 : Int) (Go.bits .xor .u8 (rd t515 x10_16) a2)) | ((with_reducible refine gate_store (t := 5) (p := 76) rfl ?_); refine store_event (t := 5) (p := 76) (v := ?vo_w59) (w1 := (w57.setCell ⟨go45, (x10_16 : Int).toNat, none⟩ (.int .u8 (Go.bits .xor .u8 (rd t515 x10_16) a2)))) ?hg ?ho ?hn ?hr ?_; (case ho => rfl); (case hg => rfl); (case hn => rfl); (case hr => first | (go_simp; done) | (go_simp; rfl)); intro w59 hw; have hg : w57.grownBy w59 (some go45) := (by rw [hw]; exact HP58.2); have hp_ : Kd.R (Kd.int .u8) 5 w59 w.heap.size (fun k_ => some k_ ≠ (.slice Ao56 y535.length co56 : Value).ownBlock) (.slice (some ⟨go45, 0, none⟩) t515.length co18) y551 := (by rw [hw, Ny551.out]; exact HP58.1); clear HP58; have n0_ := Aside0.mk (hp_); have n1_ := Aside0.mk (Kd.V_afterv (v := (.slice (some ⟨go45, 0, none⟩) t515.length co18)) (v1 := (.slice (some ⟨go45, 0, none⟩) t515.length co18)) (ok := (fun k_ => some k_ ≠ (.slice Ao56 y535.length co56 : Value).ownBlock)) (by (with_reducible repeat (first | apply Kd.V_alloc | apply Kd.V_drewN | apply Kd.V_drew)); exact Kd.V_mono HO526.out (fun _ hk => ⟨hk.2, hk.1⟩)) hg (.inl rfl)); have n2_ := Aside0.mk (Kd.R_after (v := (.slice (some ⟨go45, 0, none⟩) t515.length co18)) (v1 := (.slice (some ⟨go45, 0, none⟩) t515.length co18)) (ok := (fun _ => True)) (by (with_reducible repeat (first | apply Kd.R_alloc | apply Kd.R_drewN | apply Kd.R_drew)); exact Kd.R_mono HO537.out (fun _ hk => ⟨trivial, hk⟩)) hg (.inl rfl)); have n3_ := Aside0.mk (Kd.V_afterv (v := (.slice (some ⟨go45, 0, none⟩) t515.length co18)) (v1 := (.slice (some ⟨go45, 0, none⟩) t515.length co18)) (ok := (fun k_ => some k_ ≠ (.slice Ao56 y535.length co56 : Value).ownBlock)) (by (with_reducible repeat (first | apply Kd.V_alloc | apply Kd.V_drewN | apply Kd.V_drew)); exact Kd.V_mono HO540.out (fun _ hk => ⟨hk.2, hk.1⟩)) hg (.inl rfl)); have n4_ := Aside0.mk ((by rw [hw]; exact below_set (HB.out) GB45.out : Below w.heap.size w w59)); clear HO_8; clear HO526; clear HO537; clear HO540; clear HB; have HO_8 := n0_; have HO526 := n1_; have HO537 := n2_; have HO540 := n3_; have HB := n4_; clear n0_ n1_ n2_ n3_ n4_; clear hg hw hp_) | ((with_reducible refine gate_callee (f := 21) rfl ?_); refine goesL_ (some 79) rfl rfl Tryd.func21 q18_ rfl #[.slice (some ⟨go45, 0, none⟩) y551.length co18] rfl (by (try simp only [List.map_toArray, List.map_cons, List.map_nil]); first | done | (rw [show y551.length = t515.length from (Kd.R_reads' HO_8.out).1.symm] <;> rfl) | rfl | (simp only [List.length_drop, List.length_take]; rfl)) ?_; (with_reducible refine (stream_Take.calls kj16 _ _ y551 t552 t555 t556 _ ?side1 ?side2 A46.out).mono ?_); (case side1 => repeat (first | exact (Kd.R_reads' HO_8.out).2.2 | (with_reducible refine Kd.C_alloc ?_ _) | (with_reducible refine Kd.C_drewN ?_ _) | (with_reducible refine Kd.C_drew ?_))); (case side2 => rw [show y551.length = t515.length from (Kd.R_reads' HO_8.out).1.symm]; exact (Kd.R_reads' HO_8.out).2.1); rintro e w60 ⟨v553, rfl, ho0, hb⟩; refine ⟨_, rfl, ?_⟩; have n0_ := Aside0.mk (Kd.R_below q11_ hb); have n1_ := Aside0.mk (Kd.V_below q46_ hb); have n2_ := Aside0.mk (Kd.R_below q56_ hb); have n3_ := Aside0.mk (Kd.V_below (by (with_reducible repeat (first | apply Kd.V_alloc | apply Kd.V_drewN | apply Kd.V_drew)); exact HO540.out) hb); have n4_ := Aside0.mk (Kd.V_lower (Kd.V_mono (ok' := fun k_ => some k_ ≠ (.slice (some ⟨go45, 0, none⟩) t515.length co18 : Value).ownBlock ∧ some k_ ≠ (.slice Ao56 y535.length co56 : Value).ownBlock) ho0 (fun k_ hk_ => ⟨(Kd.fresh' (Kd.R_lt q11_) k_ hk_), (Kd.fresh' (Kd.R_lt q56_) k_ hk_)⟩)) (below_size q0_)); have n5_ := Aside0.mk (below_step q0_ hb); clear HO_8; clear HO526; clear HO537; clear HO540; clear HB; have HO_8 := n0_; have HO526 := n1_; have HO537 := n2_; have HO540 := n3_; have HO554 := n4_; have HB := n5_; clear n0_ n1_ n2_ n3_ n4_ n5_; (try clear hb); (try clear hb2); (try clear hk); (try clear hi); (try clear ho0)))
                go_ret
                exact ⟨q9_, by repeat (first | (with_reducible first | exact HB.out | apply below_alloc | apply pw_below_drewN | apply below_drew1) | exact HB.out)⟩
               ·rw [if_neg c49] at H
                have c49b0 : (t542 == 26) = false := beq_eq_false_iff_ne.mpr c49
                have c49b1 : (t542 != 26) = true := bne_iff_ne.mpr c49
                exact absurd (Option.some.inj H) (by rw [hr_.out]; decide)
              ·rw [if_neg c48] at H
               have c48b0 : (t528 == 26) = false := beq_eq_false_iff_ne.mpr c48
               have c48b1 : (t528 != 26) = true := bne_iff_ne.mpr c48
               exact absurd (Option.some.inj H) (by rw [hr_.out]; decide)
             ·replace c47 := Bool.eq_false_iff.mpr c47
              subst c47
              have H1 : (some false) = some r := by rw [if_neg (show ¬ (false = true) by decide)] at H; exact H
              clear H
              have H := H1
              clear H1
              exact absurd (Option.some.inj H) (by rw [hr_.out]; decide)
            ·rw [if_neg c44] at H
             exact absurd H (by simp)
          ·rw [if_neg c24] at H
           exact absurd H (by simp)
         ·rw [if_neg c23] at H
          exact absurd H (by simp)
        ·rw [if_neg c21] at H
         exact absurd H (by simp)
       ·rw [if_neg c20] at H
        exact absurd H (by simp)

/-- THE ONE PURE STATEMENT of cambiumlaw19_StreamTurned: yours. -/
def cambiumlaw19_StreamTurned.Pure : Prop := ∀ (l0 : List (S37)) (a1 : Int) (a2 : Int), (l0.length ≤ maxLen ∧ ∀ y0_ ∈ l0, ((Lit.int .i64 y0_.f0).wf = true ∧ y0_.f1.size ≤ maxLen ∧ y0_.f2.size ≤ maxLen ∧ (Lit.int .i64 y0_.f3).wf = true ∧ (y0_.f4.length ≤ maxLen ∧ ∀ y1_ ∈ y0_.f4, (Lit.int .u8 y1_).wf = true))) → (Lit.int .i64 a1).wf = true → (Lit.int .u8 a2).wf = true → ∃ k, cambiumlaw19_StreamTurned.f k l0 a1 a2 = some true
theorem cambiumlaw19_StreamTurned.walk (P : cambiumlaw19_StreamTurned.Pure) (A0 : Option Addr) (c0 : Nat) (l0 : List (S37)) (a1 : Int) (a2 : Int) (w : World) (hr0 : Kd.C k37 w A0 l0.length l0) (hc0 : l0.length ≤ c0) (w0 : (l0.length ≤ maxLen ∧ ∀ y0_ ∈ l0, ((Lit.int .i64 y0_.f0).wf = true ∧ y0_.f1.size ≤ maxLen ∧ y0_.f2.size ≤ maxLen ∧ (Lit.int .i64 y0_.f3).wf = true ∧ (y0_.f4.length ≤ maxLen ∧ ∀ y1_ ∈ y0_.f4, (Lit.int .u8 y1_).wf = true)))) (w1 : (Lit.int .i64 a1).wf = true) (w2 : (Lit.int .u8 a2).wf = true) :
  Calls Tryd.prog 8 #[.slice A0 l0.length c0, .int .i64 a1, .int .u8 a2] w fun e w' => e = .returned (.bool true) ∧ Below w.heap.size w w' := by
 obtain ⟨k, h⟩ := P l0 a1 a2 w0 w1 w2
 refine (cambiumlaw19_StreamTurned.calls k A0 c0 l0 a1 a2 true w hr0 hc0 ⟨rfl⟩ h).mono ?_
 rintro e w' ⟨rfl, hd⟩
 exact ⟨rfl, hd⟩

end Go.Proofs.YtgklipfeheohkaaDoor.P
