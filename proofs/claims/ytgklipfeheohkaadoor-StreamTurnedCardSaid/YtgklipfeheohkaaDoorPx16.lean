/- Functions and contracts, written by a program (mkprint.py, a wrapper of ours around the print); texts between GIVEN marks are ours. -/
import Derived.Test.YtgklipfeheohkaaDoorPx0
import Derived.Test.YtgklipfeheohkaaDoorPx1
import Derived.Test.YtgklipfeheohkaaDoorPx2
import Derived.Test.YtgklipfeheohkaaDoorPx3
import Derived.Test.YtgklipfeheohkaaDoorPx4
import Derived.Test.YtgklipfeheohkaaDoorPx11
import Derived.Test.YtgklipfeheohkaaDoorPx14
namespace Go.Proofs.YtgklipfeheohkaaDoor.P
open Go.RowKit Go.Proofs.YtgklipfeheohkaaDoorW.PrintWords Go.Proofs.YtgklipfeheohkaaDoorW.PrintLast Go.Proofs.YtgklipfeheohkaaDoorW.PrintMore
attribute [local go_sem] max2_int min2_int max_two min_two max_three min_three max_four min_four   -- for this text's walks alone
set_option linter.unusedVariables false
set_option linter.unusedSimpArgs false
theorem q67_ {P : Prop} (h : P := by repeat (first | (with_reducible exact HR503_4.out) | (with_reducible refine Kd.C_alloc ?_ _) | (with_reducible refine Kd.C_drewN ?_ _) | (with_reducible refine Kd.C_drew ?_) | exact HR503_4.out)) : P := h

/-! ### cambiumlaw19_StreamBack: function 7 -/
def cambiumlaw19_StreamBack.l0 : Nat → List (S37) → Bool → Bool → List Int → Int → Int → Option (Bool)
 | 0, _, _, _, _, _, _ => none
 | k + 1, x0, x1, x5, x6, x7, x8 => if x8 < (x0.length : Int) then (if 0 ≤ x8 then ((stream_Good.f k ((rd_T37 x0 x8).f0) ((rd_T37 x0 x8).f1) ((rd_T37 x0 x8).f2) ((rd_T37 x0 x8).f3) ((rd_T37 x0 x8).f4)).bind fun t504 => (if t504 = true then (cambiumlaw19_StreamBack.l0 k x0 x1 x5 x6 x7 (wrap64 (x8 + 1))) else (if x5 = true then (if x7 = 1 then (some ((x6.length : Int) == 0)) else (some false)) else (some false)))) else (none)) else ((stream_Take.f k x6).bind fun bt505 => ((cambiumref19_Same.f x0 bt505.1).bind fun t510 => (if x5 = true then (if x7 = 0 then (if bt505.2.2 = 0 then (if t510 = true then (some (bt505.2.1 == x1)) else (some false)) else (some false)) else (some false)) else (some false))))
def cambiumlaw19_StreamBack.f (k : Nat) (l0 : List (S37)) (a1 : Bool) : Option (Bool) := (cambiumlaw19_shown.f k).bind fun t495 => ((cambiumlaw19_few.f k l0).bind fun t496 => ((stream_Put.f k t496 a1).bind fun bt499 => (cambiumlaw19_StreamBack.l0 k t496 a1 t495 bt499.1 bt499.2 0)))
theorem cambiumlaw19_StreamBack.mono_l : ∀ k, (∀ y0 y1 y2 y3 y4 y5, LeO (cambiumlaw19_StreamBack.l0 k y0 y1 y2 y3 y4 y5) (cambiumlaw19_StreamBack.l0 (k + 1) y0 y1 y2 y3 y4 y5))
 | 0 => fun _ _ _ _ _ _ r h => absurd (show none = some r from h) (by simp)
 | k + 1 => by
  have ih0 := cambiumlaw19_StreamBack.mono_l k
  ·intro y0 y1 y2 y3 y4 y5
   unfold cambiumlaw19_StreamBack.l0
   repeat' first
   | (with_reducible exact ih0 _ _ _ _ _ _)
   | (with_reducible exact cambiumlaw19_few.mono _ _)
   | (with_reducible exact cambiumlaw19_shown.mono _)
   | (with_reducible exact stream_Good.mono _ _ _ _ _ _)
   | (with_reducible exact stream_Put.mono _ _ _)
   | (with_reducible exact stream_Take.mono _ _)
   | (with_reducible exact LeO.refl _)
   | (with_reducible exact LeO.none _)
   | (with_reducible refine LeO.ite ?_ ?_)
   | (with_reducible refine LeO.bind ?_ (fun _ => ?_))
   | exact ih0 _ _ _ _ _ _
   | exact cambiumlaw19_few.mono _ _
   | exact cambiumlaw19_shown.mono _
   | exact stream_Good.mono _ _ _ _ _ _
   | exact stream_Put.mono _ _ _
   | exact stream_Take.mono _ _
   | exact LeO.none _
   | refine LeO.ite ?_ ?_
   | refine LeO.bind ?_ (fun _ => ?_)
theorem cambiumlaw19_StreamBack.mono : ∀ a0 a1 k, LeO (cambiumlaw19_StreamBack.f k a0 a1) (cambiumlaw19_StreamBack.f (k + 1) a0 a1) := by
 intro a0 a1 k
 have ih0 := cambiumlaw19_StreamBack.mono_l k
 unfold cambiumlaw19_StreamBack.f
 repeat' first
   | (with_reducible exact ih0 _ _ _ _ _ _)
   | (with_reducible exact cambiumlaw19_few.mono _ _)
   | (with_reducible exact cambiumlaw19_shown.mono _)
   | (with_reducible exact stream_Good.mono _ _ _ _ _ _)
   | (with_reducible exact stream_Put.mono _ _ _)
   | (with_reducible exact stream_Take.mono _ _)
   | (with_reducible exact LeO.refl _)
   | (with_reducible exact LeO.none _)
   | (with_reducible refine LeO.ite ?_ ?_)
   | (with_reducible refine LeO.bind ?_ (fun _ => ?_))
   | exact ih0 _ _ _ _ _ _
   | exact cambiumlaw19_few.mono _ _
   | exact cambiumlaw19_shown.mono _
   | exact stream_Good.mono _ _ _ _ _ _
   | exact stream_Put.mono _ _ _
   | exact stream_Take.mono _ _
   | exact LeO.none _
   | refine LeO.ite ?_ ?_
   | refine LeO.bind ?_ (fun _ => ?_)
set_option maxHeartbeats 8000000 in
set_option maxRecDepth 100000 in
theorem cambiumlaw19_StreamBack.calls (k : Nat) (A0 : Option Addr) (c0 : Nat) (l0 : List (S37)) (a1 : Bool) (r : Bool) (w : World) (hr0 : Kd.C k37 w A0 l0.length l0) (hc0 : l0.length ≤ c0) (hr_ : Aside0 (r = true)) (h : cambiumlaw19_StreamBack.f k l0 a1 = some r) :
  Calls Tryd.prog 7 #[.slice A0 l0.length c0, .bool a1] w fun e w' => e = .returned (.bool r) ∧ Below w.heap.size w w' := by
 have hu37 := Tryd.underlying37
 have HR0 := Aside0.mk hr0
 have HC0 := Aside0.mk hc0
 clear hr0 hc0
 have HB := Aside0.mk (Below.refl w.heap.size w)
 have H : ((cambiumlaw19_shown.f k).bind fun t495 => ((cambiumlaw19_few.f k l0).bind fun t496 => ((stream_Put.f k t496 a1).bind fun bt499 => (cambiumlaw19_StreamBack.l0 k t496 a1 t495 bt499.1 bt499.2 0)))) = some r := h
 clear h
 replace H := Option.bind_eq_some_iff.mp H
 obtain ⟨t495, A30, H⟩ := H
 replace H : ((cambiumlaw19_few.f k l0).bind fun t496 => ((stream_Put.f k t496 a1).bind fun bt499 => (cambiumlaw19_StreamBack.l0 k t496 a1 t495 bt499.1 bt499.2 0))) = some r := H
 have A3 := Aside0.mk A30
 clear A30
 replace H := Option.bind_eq_some_iff.mp H
 obtain ⟨t496, A40, H⟩ := H
 replace H : ((stream_Put.f k t496 a1).bind fun bt499 => (cambiumlaw19_StreamBack.l0 k t496 a1 t495 bt499.1 bt499.2 0)) = some r := H
 have A4 := Aside0.mk A40
 clear A40
 replace H := Option.bind_eq_some_iff.mp H
 obtain ⟨⟨t499, t500⟩, A50, H⟩ := H
 replace H : (cambiumlaw19_StreamBack.l0 k t496 a1 t495 t499 t500 0) = some r := H
 have A5 := Aside0.mk A50
 clear A50
 have H' := Aside0.mk H
 clear H
 go_enter Tryd.func7, Tryd.ntmps7
 go_wp2_with (first | ((with_reducible refine gate_callee (f := 9) rfl ?_); refine goesL_ (some 13) rfl rfl Tryd.func9 q18_ rfl #[] rfl q1_ ?_; (with_reducible refine (cambiumlaw19_shown.calls k  t495 _ A3.out).mono ?_); rintro e w6 ⟨rfl, hb⟩; refine ⟨_, rfl, ?_⟩; have n0_ := Aside0.mk (below_step q0_ hb); clear HB; have HB := n0_; clear n0_; (try clear hb); (try clear hb2); (try clear hk); (try clear hi)) | ((with_reducible refine gate_callee (f := 16) rfl ?_); refine goesL_ (some 15) rfl rfl Tryd.func16 q18_ rfl #[.slice A0 l0.length c0] rfl q1_ ?_; (with_reducible refine (cambiumlaw19_few.calls k (fun k_ => k_ < w.heap.size) _ _ l0 t496 _ ?side1 A4.out).mono ?_); (case side1 => exact Kd.V_mk HC0.out (Kd.F_below (Kd.C_F k37_heap HR0.out) q0_)); rintro e w7 ⟨v497, rfl, ho0, hb⟩; refine ⟨_, rfl, ?_⟩; have n0_ := Aside0.mk (Kd.N_lower (Kd.N_mono (ok' := fun k_ => True) ho0 (fun k_ hk_ => trivial)) (below_size q0_)); have n1_ := Aside0.mk (below_step q0_ hb); clear HB; have HO498 := n0_; have HB := n1_; clear n0_ n1_; (try clear hb); (try clear hb2); (try clear hk); (try clear hi); (try clear ho0); obtain ⟨Ao8, co8, eo8⟩ := Kd.N_slice HO498.out; subst eo8) | ((with_reducible refine gate_callee (f := 19) rfl ?_); refine goesL_ (some 19) rfl rfl Tryd.func19 q18_ rfl #[.slice Ao8 t496.length co8, .bool a1] rfl q1_ ?_; (with_reducible refine (stream_Put.calls k _ _ t496 a1 t499 t500 _ ?side1 ?side2 A5.out).mono ?_); (case side1 => repeat (first | exact (Kd.N_reads' HO498.out).2.2 | (with_reducible refine Kd.C_alloc ?_ _) | (with_reducible refine Kd.C_drewN ?_ _) | (with_reducible refine Kd.C_drew ?_))); (case side2 => exact (Kd.N_reads' HO498.out).2.1); rintro e w9 ⟨v501, rfl, ho0, hb⟩; refine ⟨_, rfl, ?_⟩; have n0_ := Aside0.mk (Kd.N_elder' (by (with_reducible repeat (first | apply Kd.N_alloc | apply Kd.N_drewN | apply Kd.N_drew)); exact HO498.out) (Kd.R_base ho0) hb); have n1_ := Aside0.mk (Kd.R_lower ho0 (below_size q0_)); have n2_ := Aside0.mk (below_step q0_ hb); clear HO498; clear HB; have HO498 := n0_; have HO502 := n1_; have HB := n2_; clear n0_ n1_ n2_; (try clear hb); (try clear hb2); (try clear hk); (try clear hi); (try clear ho0)))
 go_loopg [8] k (fun kq v8 w' => ∃ (x8_1 : Int), v8 = .int .i64 x8_1 ∧ Aside0 (cambiumlaw19_StreamBack.l0 kq t496 a1 t495 t499 t500 x8_1 = some r) ∧ Aside0 (kq ≤ k) ∧ Aside0 (Kd.N k37 37 w' w.heap.size (fun k_ => some k_ ≠ (v501 : Value).ownBlock) (.slice Ao8 t496.length co8) t496) ∧ Aside0 (Kd.R (Kd.int .u8) 5 w' w.heap.size (fun _ => True) v501 t499) ∧ Aside0 (Below w.heap.size w w'))
 case atStart => exact ⟨(0), q3_, H', ⟨Nat.le_refl _⟩, ⟨by (with_reducible repeat (first | apply Kd.N_alloc | apply Kd.N_drewN | apply Kd.N_drew)); exact Kd.N_mono HO498.out (fun _ hk => hk.2)⟩, ⟨by (with_reducible repeat (first | apply Kd.R_alloc | apply Kd.R_drewN | apply Kd.R_drew)); exact HO502.out⟩, ⟨q0_⟩⟩
 case round =>
  clear H'
  try clear c1
  try clear p2
  try clear c7
  try clear c9
  obtain ⟨x8_1, rfl, HA, HK1, HO_0, HO_6, HB⟩ := hrel
  cases gk with
  | zero => exact absurd (show none = some _ from HA.out) (by simp)
  | succ k1 =>
   have H := HA.out
   clear HA
   simp only [cambiumlaw19_StreamBack.l0] at H
   by_cases c10 : x8_1 < (t496.length : Int)
   ·rw [if_pos c10] at H
    have c10b0 : decide (x8_1 < (t496.length : Int)) = true := decide_eq_true c10
    clear c10
    by_cases c11 : 0 ≤ x8_1
    ·rw [if_pos c11] at H
     have c11b0 : decide (0 ≤ x8_1) = true := decide_eq_true c11
     clear c11
     replace H := Option.bind_eq_some_iff.mp H
     obtain ⟨t504, A120, H⟩ := H
     replace H : (if t504 = true then (cambiumlaw19_StreamBack.l0 k1 t496 a1 t495 t499 t500 (wrap64 (x8_1 + 1))) else (if t495 = true then (if t500 = 1 then (some ((t499.length : Int) == 0)) else (some false)) else (some false))) = some r := H
     have A12 := Aside0.mk A120
     clear A120
     by_cases c13 : t504 = true
     ·subst c13
      have H1 : (cambiumlaw19_StreamBack.l0 k1 t496 a1 t495 t499 t500 (wrap64 (x8_1 + 1))) = some r := by rw [if_pos rfl] at H; exact H
      clear H
      have H := H1
      clear H1
      have H' := Aside0.mk H
      clear H
      have p503 : 0 ≤ (x8_1 : Int) := of_decide_eq_true q7_
      have q503 : x8_1 < (t496.length : Int) := of_decide_eq_true q7_
      obtain ⟨ad503, A503_4, c503_4, e503, hx503_0, hx503_1, hx503_2, hx503_3, hx503_4, hl503_4, hi503_4⟩ := at_T37 (Kd.N_reads' HO_0.out).2.2 x8_1 p503 q503
      cases e503
      obtain ⟨ce503, hce503, hMe503, hcc503⟩ := Kd.N_get HO_0.out z37 x8_1 p503 (by first | exact q503 | exact of_decide_eq_true q7_ | (have e_ := (Kd.N_reads' HO_0.out).1; omega))
      obtain ⟨ua503_4, uc503_4, rfl, ul503_4, ge503_4⟩ := k37_openF hMe503
      have hv503_4 := hcc503 4 _ rfl
      rw [add_field _ _ 4 (by omega)] at hv503_4
      replace hv503_4 := Option.some.inj (hv503_4.symm.trans hx503_4)
      injection hv503_4 with hva_ hvn_ hvc_
      rw [hva_] at ge503_4
      rw [hvc_] at ul503_4
      have HL503_4 := Aside0.mk (show Kd.V (Kd.int .u8) 5 _ w.heap.size _ _ ((rd_T37 t496 x8_1).f4) from Kd.V_mk ul503_4 ge503_4)
      clear hva_ hvn_ hvc_ ge503_4 ul503_4
      clear hcc503 hce503
      have HR503_4 := Aside0.mk hi503_4
      have HC503_4 := Aside0.mk hl503_4
      clear hi503_4 hl503_4
      replace p503 := eq_true p503
      replace q503 := eq_true q503
      go_wp2_with (first | ((with_reducible refine gate_callee (f := 17) rfl ?_); refine goesL_ (some 32) rfl rfl Tryd.func17 q18_ rfl #[.agg #[.int .i64 ((rd_T37 t496 x8_1).f0), .string ((rd_T37 t496 x8_1).f1), .string ((rd_T37 t496 x8_1).f2), .int .i64 ((rd_T37 t496 x8_1).f3), .slice A503_4 ((rd_T37 t496 x8_1).f4).length c503_4]] rfl q1_ ?_; (with_reducible refine (stream_Good.calls k1 ((rd_T37 t496 x8_1).f0) ((rd_T37 t496 x8_1).f1) ((rd_T37 t496 x8_1).f2) ((rd_T37 t496 x8_1).f3) _ _ ((rd_T37 t496 x8_1).f4) true _ ?side1 ?side2 A12.out).mono ?_); (case side1 => repeat (first | exact q67_ | (with_reducible refine Kd.C_alloc ?_ _) | (with_reducible refine Kd.C_drewN ?_ _) | (with_reducible refine Kd.C_drew ?_))); (case side2 => exact HC503_4.out); rintro e w14 ⟨rfl, hb⟩; refine ⟨_, rfl, ?_⟩; have n0_ := Aside0.mk (Kd.N_below q44_ hb); have n1_ := Aside0.mk (Kd.R_below q5_ hb); have n2_ := Aside0.mk (Kd.V_below (by (with_reducible repeat (first | apply Kd.V_alloc | apply Kd.V_drewN | apply Kd.V_drew)); exact HL503_4.out) hb); have n3_ := Aside0.mk (Kd.C_below q67_ hb); have n4_ := Aside0.mk (below_step q0_ hb); clear HO_0; clear HO_6; clear HL503_4; clear HR503_4; clear HB; have HO_0 := n0_; have HO_6 := n1_; have HL503_4 := n2_; have HR503_4 := n3_; have HB := n4_; clear n0_ n1_ n2_ n3_ n4_; (try clear hb); (try clear hb2); (try clear hk); (try clear hi)))
      go_roundg k1
      case measure => have := HK1.out; omega
      case rel => exact ⟨(wrap64 (x8_1 + 1)), q3_, H', ⟨by have := HK1.out; omega⟩, ⟨q44_⟩, ⟨q5_⟩, ⟨q0_⟩⟩
     ·replace c13 := Bool.eq_false_iff.mpr c13
      subst c13
      have H1 : (if t495 = true then (if t500 = 1 then (some ((t499.length : Int) == 0)) else (some false)) else (some false)) = some r := by rw [if_neg (show ¬ (false = true) by decide)] at H; exact H
      clear H
      have H := H1
      clear H1
      by_cases c15 : t495 = true
      ·subst c15
       have H1 : (if t500 = 1 then (some ((t499.length : Int) == 0)) else (some false)) = some r := by rw [if_pos rfl] at H; exact H
       clear H
       have H := H1
       clear H1
       by_cases c16 : t500 = 1
       ·rw [if_pos c16] at H
        have c16b0 : (t500 == 1) = true := beq_iff_eq.mpr c16
        have c16b1 : (t500 != 1) = false := bne_eq_false_iff_eq.mpr c16
        clear c16
        obtain rfl := Option.some.inj H
        have p503 : 0 ≤ (x8_1 : Int) := of_decide_eq_true q7_
        have q503 : x8_1 < (t496.length : Int) := of_decide_eq_true q7_
        obtain ⟨ad503, A503_4, c503_4, e503, hx503_0, hx503_1, hx503_2, hx503_3, hx503_4, hl503_4, hi503_4⟩ := at_T37 (Kd.N_reads' HO_0.out).2.2 x8_1 p503 q503
        cases e503
        obtain ⟨ce503, hce503, hMe503, hcc503⟩ := Kd.N_get HO_0.out z37 x8_1 p503 (by first | exact q503 | exact of_decide_eq_true q7_ | (have e_ := (Kd.N_reads' HO_0.out).1; omega))
        obtain ⟨ua503_4, uc503_4, rfl, ul503_4, ge503_4⟩ := k37_openF hMe503
        have hv503_4 := hcc503 4 _ rfl
        rw [add_field _ _ 4 (by omega)] at hv503_4
        replace hv503_4 := Option.some.inj (hv503_4.symm.trans hx503_4)
        injection hv503_4 with hva_ hvn_ hvc_
        rw [hva_] at ge503_4
        rw [hvc_] at ul503_4
        have HL503_4 := Aside0.mk (show Kd.V (Kd.int .u8) 5 _ w.heap.size _ _ ((rd_T37 t496 x8_1).f4) from Kd.V_mk ul503_4 ge503_4)
        clear hva_ hvn_ hvc_ ge503_4 ul503_4
        clear hcc503 hce503
        have HR503_4 := Aside0.mk hi503_4
        have HC503_4 := Aside0.mk hl503_4
        clear hi503_4 hl503_4
        replace p503 := eq_true p503
        replace q503 := eq_true q503
        go_wp2_with (first | ((with_reducible refine gate_callee (f := 17) rfl ?_); refine goesL_ (some 32) rfl rfl Tryd.func17 q18_ rfl #[.agg #[.int .i64 ((rd_T37 t496 x8_1).f0), .string ((rd_T37 t496 x8_1).f1), .string ((rd_T37 t496 x8_1).f2), .int .i64 ((rd_T37 t496 x8_1).f3), .slice A503_4 ((rd_T37 t496 x8_1).f4).length c503_4]] rfl q1_ ?_; (with_reducible refine (stream_Good.calls k1 ((rd_T37 t496 x8_1).f0) ((rd_T37 t496 x8_1).f1) ((rd_T37 t496 x8_1).f2) ((rd_T37 t496 x8_1).f3) _ _ ((rd_T37 t496 x8_1).f4) false _ ?side1 ?side2 A12.out).mono ?_); (case side1 => repeat (first | exact q67_ | (with_reducible refine Kd.C_alloc ?_ _) | (with_reducible refine Kd.C_drewN ?_ _) | (with_reducible refine Kd.C_drew ?_))); (case side2 => exact HC503_4.out); rintro e w17 ⟨rfl, hb⟩; refine ⟨_, rfl, ?_⟩; have n0_ := Aside0.mk (Kd.N_below q44_ hb); have n1_ := Aside0.mk (Kd.R_below q5_ hb); have n2_ := Aside0.mk (Kd.V_below (by (with_reducible repeat (first | apply Kd.V_alloc | apply Kd.V_drewN | apply Kd.V_drew)); exact HL503_4.out) hb); have n3_ := Aside0.mk (Kd.C_below q67_ hb); have n4_ := Aside0.mk (below_step q0_ hb); clear HO_0; clear HO_6; clear HL503_4; clear HR503_4; clear HB; have HO_0 := n0_; have HO_6 := n1_; have HL503_4 := n2_; have HR503_4 := n3_; have HB := n4_; clear n0_ n1_ n2_ n3_ n4_; (try clear hb); (try clear hb2); (try clear hk); (try clear hi); obtain ⟨Ao18, co18, eo18⟩ := Kd.R_slice HO_6.out; subst eo18))
        go_ret
        exact ⟨q9_, by repeat (first | (with_reducible first | exact HB.out | apply below_alloc | apply pw_below_drewN | apply below_drew1) | exact HB.out)⟩
       ·rw [if_neg c16] at H
        have c16b0 : (t500 == 1) = false := beq_eq_false_iff_ne.mpr c16
        have c16b1 : (t500 != 1) = true := bne_iff_ne.mpr c16
        exact absurd (Option.some.inj H) (by rw [hr_.out]; decide)
      ·replace c15 := Bool.eq_false_iff.mpr c15
       subst c15
       have H1 : (some false) = some r := by rw [if_neg (show ¬ (false = true) by decide)] at H; exact H
       clear H
       have H := H1
       clear H1
       exact absurd (Option.some.inj H) (by rw [hr_.out]; decide)
    ·rw [if_neg c11] at H
     exact absurd H (by simp)
   ·rw [if_neg c10] at H
    have c10b0 : decide (x8_1 < (t496.length : Int)) = false := decide_eq_false c10
    clear c10
    replace H := Option.bind_eq_some_iff.mp H
    obtain ⟨⟨t505, t508, t509⟩, A190, H⟩ := H
    replace H : ((cambiumref19_Same.f t496 t505).bind fun t510 => (if t495 = true then (if t500 = 0 then (if t509 = 0 then (if t510 = true then (some (t508 == a1)) else (some false)) else (some false)) else (some false)) else (some false))) = some r := H
    have A19 := Aside0.mk A190
    clear A190
    replace H := Option.bind_eq_some_iff.mp H
    obtain ⟨t510, A200, H⟩ := H
    replace H : (if t495 = true then (if t500 = 0 then (if t509 = 0 then (if t510 = true then (some (t508 == a1)) else (some false)) else (some false)) else (some false)) else (some false)) = some r := H
    have A20 := Aside0.mk A200
    clear A200
    by_cases c21 : t495 = true
    ·subst c21
     have H1 : (if t500 = 0 then (if t509 = 0 then (if t510 = true then (some (t508 == a1)) else (some false)) else (some false)) else (some false)) = some r := by rw [if_pos rfl] at H; exact H
     clear H
     have H := H1
     clear H1
     by_cases c22 : t500 = 0
     ·rw [if_pos c22] at H
      have c22b0 : (t500 == 0) = true := beq_iff_eq.mpr c22
      have c22b1 : (t500 != 0) = false := bne_eq_false_iff_eq.mpr c22
      clear c22
      by_cases c23 : t509 = 0
      ·rw [if_pos c23] at H
       have c23b0 : (t509 == 0) = true := beq_iff_eq.mpr c23
       have c23b1 : (t509 != 0) = false := bne_eq_false_iff_eq.mpr c23
       clear c23
       by_cases c24 : t510 = true
       ·subst c24
        have H1 : (some (t508 == a1)) = some r := by rw [if_pos rfl] at H; exact H
        clear H
        have H := H1
        clear H1
        obtain rfl := Option.some.inj H
        obtain ⟨Ao25, co25, eo25⟩ := Kd.R_slice HO_6.out
        subst eo25
        go_wp2_with (first | ((with_reducible refine gate_callee (f := 21) rfl ?_); refine goesL_ (some 46) rfl rfl Tryd.func21 q18_ rfl #[.slice Ao25 t499.length co25] rfl q1_ ?_; (with_reducible refine (stream_Take.calls k1 _ _ t499 t505 t508 t509 _ ?side1 ?side2 A19.out).mono ?_); (case side1 => repeat (first | exact (Kd.R_reads' HO_6.out).2.2 | (with_reducible refine Kd.C_alloc ?_ _) | (with_reducible refine Kd.C_drewN ?_ _) | (with_reducible refine Kd.C_drew ?_))); (case side2 => exact (Kd.R_reads' HO_6.out).2.1); rintro e w26 ⟨v506, rfl, ho0, hb⟩; refine ⟨_, rfl, ?_⟩; have n0_ := Aside0.mk (Kd.N_below q44_ hb); have n1_ := Aside0.mk (Kd.R_below q5_ hb); have n2_ := Aside0.mk (Kd.V_lower (Kd.V_mono (ok' := fun k_ => some k_ ≠ (.slice Ao8 t496.length co8 : Value).ownBlock ∧ some k_ ≠ (.slice Ao25 t499.length co25 : Value).ownBlock) ho0 (fun k_ hk_ => ⟨(Kd.fresh' (Kd.N_lt q44_) k_ hk_), (Kd.fresh' (Kd.R_lt q5_) k_ hk_)⟩)) (below_size q0_)); have n3_ := Aside0.mk (below_step q0_ hb); clear HO_0; clear HO_6; clear HB; have HO_0 := n0_; have HO_6 := n1_; have HO507 := n2_; have HB := n3_; clear n0_ n1_ n2_ n3_; (try clear hb); (try clear hb2); (try clear hk); (try clear hi); (try clear ho0); obtain ⟨Ao27, co27, eo27⟩ := Kd.V_slice HO507.out; subst eo27) | ((with_reducible refine gate_callee (f := 23) rfl ?_); refine goesL_ (some 52) rfl rfl Tryd.func23 q18_ rfl #[.slice Ao8 t496.length co8, .slice Ao27 t505.length co27] rfl q1_ ?_; (with_reducible refine (cambiumref19_Same.calls _ _ t496 _ _ t505 true _ ?side1 ?side2 ?side3 ?side4 A20.out).mono ?_); (case side1 => repeat (first | exact (Kd.N_reads' HO_0.out).2.2 | (with_reducible refine Kd.C_alloc ?_ _) | (with_reducible refine Kd.C_drewN ?_ _) | (with_reducible refine Kd.C_drew ?_))); (case side2 => exact (Kd.N_reads' HO_0.out).2.1); (case side3 => repeat (first | exact (Kd.V_reads' HO507.out).2.2 | (with_reducible refine Kd.C_alloc ?_ _) | (with_reducible refine Kd.C_drewN ?_ _) | (with_reducible refine Kd.C_drew ?_))); (case side4 => exact (Kd.V_reads' HO507.out).2.1); rintro e w28 ⟨rfl, hb⟩; refine ⟨_, rfl, ?_⟩; have n0_ := Aside0.mk (Kd.N_below q44_ hb); have n1_ := Aside0.mk (Kd.R_below q5_ hb); have n2_ := Aside0.mk (Kd.V_below (by (with_reducible repeat (first | apply Kd.V_alloc | apply Kd.V_drewN | apply Kd.V_drew)); exact HO507.out) hb); have n3_ := Aside0.mk (below_step q0_ hb); clear HO_0; clear HO_6; clear HO507; clear HB; have HO_0 := n0_; have HO_6 := n1_; have HO507 := n2_; have HB := n3_; clear n0_ n1_ n2_ n3_; (try clear hb); (try clear hb2); (try clear hk); (try clear hi)))
        go_ret
        exact ⟨q9_, by repeat (first | (with_reducible first | exact HB.out | apply below_alloc | apply pw_below_drewN | apply below_drew1) | exact HB.out)⟩
       ·replace c24 := Bool.eq_false_iff.mpr c24
        subst c24
        have H1 : (some false) = some r := by rw [if_neg (show ¬ (false = true) by decide)] at H; exact H
        clear H
        have H := H1
        clear H1
        exact absurd (Option.some.inj H) (by rw [hr_.out]; decide)
      ·rw [if_neg c23] at H
       have c23b0 : (t509 == 0) = false := beq_eq_false_iff_ne.mpr c23
       have c23b1 : (t509 != 0) = true := bne_iff_ne.mpr c23
       exact absurd (Option.some.inj H) (by rw [hr_.out]; decide)
     ·rw [if_neg c22] at H
      have c22b0 : (t500 == 0) = false := beq_eq_false_iff_ne.mpr c22
      have c22b1 : (t500 != 0) = true := bne_iff_ne.mpr c22
      exact absurd (Option.some.inj H) (by rw [hr_.out]; decide)
    ·replace c21 := Bool.eq_false_iff.mpr c21
     subst c21
     have H1 : (some false) = some r := by rw [if_neg (show ¬ (false = true) by decide)] at H; exact H
     clear H
     have H := H1
     clear H1
     exact absurd (Option.some.inj H) (by rw [hr_.out]; decide)

/-- THE ONE PURE STATEMENT of cambiumlaw19_StreamBack: yours. -/
def cambiumlaw19_StreamBack.Pure : Prop := ∀ (l0 : List (S37)) (a1 : Bool), (l0.length ≤ maxLen ∧ ∀ y0_ ∈ l0, ((Lit.int .i64 y0_.f0).wf = true ∧ y0_.f1.size ≤ maxLen ∧ y0_.f2.size ≤ maxLen ∧ (Lit.int .i64 y0_.f3).wf = true ∧ (y0_.f4.length ≤ maxLen ∧ ∀ y1_ ∈ y0_.f4, (Lit.int .u8 y1_).wf = true))) → ∃ k, cambiumlaw19_StreamBack.f k l0 a1 = some true
theorem cambiumlaw19_StreamBack.walk (P : cambiumlaw19_StreamBack.Pure) (A0 : Option Addr) (c0 : Nat) (l0 : List (S37)) (a1 : Bool) (w : World) (hr0 : Kd.C k37 w A0 l0.length l0) (hc0 : l0.length ≤ c0) (w0 : (l0.length ≤ maxLen ∧ ∀ y0_ ∈ l0, ((Lit.int .i64 y0_.f0).wf = true ∧ y0_.f1.size ≤ maxLen ∧ y0_.f2.size ≤ maxLen ∧ (Lit.int .i64 y0_.f3).wf = true ∧ (y0_.f4.length ≤ maxLen ∧ ∀ y1_ ∈ y0_.f4, (Lit.int .u8 y1_).wf = true)))) :
  Calls Tryd.prog 7 #[.slice A0 l0.length c0, .bool a1] w fun e w' => e = .returned (.bool true) ∧ Below w.heap.size w w' := by
 obtain ⟨k, h⟩ := P l0 a1 w0
 refine (cambiumlaw19_StreamBack.calls k A0 c0 l0 a1 true w hr0 hc0 ⟨rfl⟩ h).mono ?_
 rintro e w' ⟨rfl, hd⟩
 exact ⟨rfl, hd⟩

end Go.Proofs.YtgklipfeheohkaaDoor.P
