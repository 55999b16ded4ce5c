import Derived.Test.YtgklipfeheohkaaDoorPx0
import Derived.Test.YtgklipfeheohkaaDoorPx11
namespace Go.Proofs.YtgklipfeheohkaaDoor.P
open Go.RowKit Go.Proofs.YtgklipfeheohkaaDoorW.PrintWords Go.Proofs.YtgklipfeheohkaaDoorW.PrintLast Go.Proofs.YtgklipfeheohkaaDoorW.PrintMore
attribute [local go_sem] max2_int min2_int max_two min_two max_three min_three max_four min_four   -- for this text's walks alone
set_option linter.unusedVariables false
set_option linter.unusedSimpArgs false
theorem q61_ {P : Prop} (h : P := by (with_reducible repeat (first | apply Kd.V_alloc | apply Kd.V_drewN | apply Kd.V_drew)); exact HO376.out) : P := h
theorem q62_ {P : Prop} (h : P := by (with_reducible repeat (first | apply Kd.V_alloc | apply Kd.V_drewN | apply Kd.V_drew)); exact HO385.out) : P := h
theorem q63_ {P : Prop} (h : P := by (with_reducible repeat (first | apply Kd.V_alloc | apply Kd.V_drewN | apply Kd.V_drew)); exact HO396.out) : P := h
theorem q64_ {P : Prop} (h : P := by (with_reducible repeat (first | apply Kd.R_alloc | apply Kd.R_drewN | apply Kd.R_drew)); exact HO391.out) : P := h
theorem q73_ {P : Prop} (h : P := by (with_reducible repeat (first | apply Kd.R_alloc | apply Kd.R_drewN | apply Kd.R_drew)); exact HO388.out) : P := h
def cambiumref01_take.f (k : Nat) (l0 : List Int) (a1 : Int) : Option (List Int × List Int × Int) := (cambiumref01_Take.f k l0 a1).bind fun bt373 => (if bt373.2.2 = 0 then (if (bt373.2.1.length : Int) < bt373.1 then (some (([] : List Int), ([] : List Int), 2)) else ((some (([] : List Int) : List Int)).bind fun y378 => (if 0 ≤ bt373.1 then (if bt373.1 ≤ (bt373.2.1.length : Int) then ((some (bt373.2.1.take (bt373.1 : Int).toNat : List Int)).bind fun y381 => (if y378.length + y381.length < 140737488355328 then ((some (([] : List Int) : List Int)).bind fun y389 => ((some (bt373.2.1.drop (bt373.1 : Int).toNat : List Int)).bind fun y392 => (if y389.length + y392.length < 140737488355328 then (some ((y378 ++ y381), (y389 ++ y392), 0)) else (none)))) else (none))) else (none)) else (none)))) else (some (([] : List Int), ([] : List Int), 2)))
def cambiumref01_take.T4 : Bool × List (List Nat × List Nat) := (true, [([], []), ([], []), ([], []), ([1, 2], [1, 2]), ([0, 3], [0, 3]), ([], []), ([], []), ([], []), ([6, 7], [6, 7]), ([5, 8, 4], [5, 8]), ([4, 9, 0, 1, 2, 3, 4], [4]), ([9, 10, 0, 1, 2, 3, 4, 5, 6, 7, 8, 9, 10], [9]), ([11, 0, 1, 2, 3, 4, 5, 6, 7, 8, 9, 10, 11], [])])
def cambiumref01_take.B4 : List Nat := [0, 0, 0, 6, 15, 0, 0, 0, 192, 511, 1023, 2047, 4095]
theorem cambiumref01_take.tab4 : rtab .any (opsOf Tryd.f54 4) = cambiumref01_take.T4 := by kernel_rfl
theorem cambiumref01_take.bits4 : waitsOk cambiumref01_take.T4.2 cambiumref01_take.B4 = true := by kernel_rfl
set_option maxHeartbeats 8000000 in
set_option maxRecDepth 100000 in
theorem cambiumref01_take.calls (k : Nat) (A0 : Option Addr) (c0 : Nat) (l0 : List Int) (a1 : Int) (r1 : List Int) (r2 : List Int) (r3 : Int) (w : World) (hr0 : Kd.C (Kd.int .u8) w A0 l0.length l0) (hc0 : l0.length ≤ c0) (h : cambiumref01_take.f k l0 a1 = some (r1, r2, r3)) :
  Calls Tryd.prog 54 #[.slice A0 l0.length c0, .int .i64 a1] w fun e w' => ∃ v0_ v1_ : Value, e = .returned (.tuple #[v0_, v1_, .int .i64 r3]) ∧ Kd.R (Kd.int .u8) 5 w' w.heap.size (fun k_ => some k_ ≠ (v1_ : Value).ownBlock) v0_ r1 ∧ Kd.R (Kd.int .u8) 5 w' w.heap.size (fun k_ => some k_ ≠ (v0_ : Value).ownBlock) v1_ r2 ∧ Below w.heap.size w w' := by
 have HR0 := Aside0.mk hr0
 have HC0 := Aside0.mk hc0
 clear hr0 hc0
 have HB := Aside0.mk (Below.refl w.heap.size w)
 have H : ((cambiumref01_Take.f k l0 a1).bind fun bt373 => (if bt373.2.2 = 0 then (if (bt373.2.1.length : Int) < bt373.1 then (some (([] : List Int), ([] : List Int), 2)) else ((some (([] : List Int) : List Int)).bind fun y378 => (if 0 ≤ bt373.1 then (if bt373.1 ≤ (bt373.2.1.length : Int) then ((some (bt373.2.1.take (bt373.1 : Int).toNat : List Int)).bind fun y381 => (if y378.length + y381.length < 140737488355328 then ((some (([] : List Int) : List Int)).bind fun y389 => ((some (bt373.2.1.drop (bt373.1 : Int).toNat : List Int)).bind fun y392 => (if y389.length + y392.length < 140737488355328 then (some ((y378 ++ y381), (y389 ++ y392), 0)) else (none)))) else (none))) else (none)) else (none)))) else (some (([] : List Int), ([] : List Int), 2)))) = some (r1, r2, r3) := h
 clear h
 replace H := Option.bind_eq_some_iff.mp H
 obtain ⟨⟨t373, t374, t377⟩, A30, H⟩ := H
 replace H : (if t377 = 0 then (if (t374.length : Int) < t373 then (some (([] : List Int), ([] : List Int), 2)) else ((some (([] : List Int) : List Int)).bind fun y378 => (if 0 ≤ t373 then (if t373 ≤ (t374.length : Int) then ((some (t374.take (t373 : Int).toNat : List Int)).bind fun y381 => (if y378.length + y381.length < 140737488355328 then ((some (([] : List Int) : List Int)).bind fun y389 => ((some (t374.drop (t373 : Int).toNat : List Int)).bind fun y392 => (if y389.length + y392.length < 140737488355328 then (some ((y378 ++ y381), (y389 ++ y392), 0)) else (none)))) else (none))) else (none)) else (none)))) else (some (([] : List Int), ([] : List Int), 2))) = some (r1, r2, r3) := H
 have A3 := Aside0.mk A30
 clear A30
 by_cases c4 : t377 = 0
 ·rw [if_pos c4] at H
  have c4b0 : (t377 == 0) = true := beq_iff_eq.mpr c4
  have c4b1 : (t377 != 0) = false := bne_eq_false_iff_eq.mpr c4
  clear c4
  by_cases c5 : (t374.length : Int) < t373
  ·rw [if_pos c5] at H
   have c5b0 : decide ((t374.length : Int) < t373) = true := decide_eq_true c5
   clear c5
   simp only [Option.some.injEq, Prod.mk.injEq] at H
   obtain ⟨rfl, rfl, rfl⟩ := H
   go_enter Tryd.func54, Tryd.ntmps54
   go_wp2_with (first | ((with_reducible refine gate_callee (f := 39) rfl ?_); refine goesL_ (some 13) rfl rfl Tryd.func39 q18_ rfl #[.slice A0 l0.length c0, .int .i64 a1] rfl q1_ ?_; (with_reducible refine (cambiumref01_Take.calls k _ _ l0 a1 t373 t374 t377 _ ?side1 ?side2 A3.out).mono ?_); (case side1 => repeat (first | exact HR0.out | (with_reducible refine Kd.C_alloc ?_ _) | (with_reducible refine Kd.C_drewN ?_ _) | (with_reducible refine Kd.C_drew ?_))); (case side2 => exact HC0.out); rintro e w6 ⟨v375, rfl, ho0, hb⟩; refine ⟨_, rfl, ?_⟩; have n0_ := Aside0.mk (Kd.V_lower (Kd.V_mono (ok' := fun k_ => True) ho0 (fun k_ hk_ => trivial)) (below_size q0_)); have n1_ := Aside0.mk (below_step q0_ hb); clear HB; have HO376 := n0_; have HB := n1_; clear n0_ n1_; (try clear hb); (try clear hb2); (try clear hk); (try clear hi); (try clear ho0); obtain ⟨Ao7, co7, eo7⟩ := Kd.V_slice HO376.out; subst eo7))
   go_ret3
   exact ⟨_, _, by first | rfl | (simp [errW_none, errW_some] <;> rfl) | (simp [*, errW_none, errW_some] <;> rfl), by first | exact Kd.R_nil _ _ _ _ _ | exact Kd.N_nil _ _ _ _ _ | exact Kd.V_nil _ _ _ _ _ | exact Kd.Q_nil _ _ _ _ _ | exact Kd.S_nil _ _ _ _ _, by first | exact Kd.R_nil _ _ _ _ _ | exact Kd.N_nil _ _ _ _ _ | exact Kd.V_nil _ _ _ _ _ | exact Kd.Q_nil _ _ _ _ _ | exact Kd.S_nil _ _ _ _ _, by repeat (first | (with_reducible first | exact HB.out | apply below_alloc | apply pw_below_drewN | apply below_drew1) | exact HB.out)⟩
  ·rw [if_neg c5] at H
   have c5b0 : decide ((t374.length : Int) < t373) = false := decide_eq_false c5
   clear c5
   obtain ⟨y378, hy378⟩ : ∃ y_ : List Int, y_ = (([] : List Int)) := ⟨_, rfl⟩
   replace H : (if 0 ≤ t373 then (if t373 ≤ (t374.length : Int) then ((some (t374.take (t373 : Int).toNat : List Int)).bind fun y381 => (if y378.length + y381.length < 140737488355328 then ((some (([] : List Int) : List Int)).bind fun y389 => ((some (t374.drop (t373 : Int).toNat : List Int)).bind fun y392 => (if y389.length + y392.length < 140737488355328 then (some ((y378 ++ y381), (y389 ++ y392), 0)) else (none)))) else (none))) else (none)) else (none)) = some (r1, r2, r3) := by first | (rw [hy378]; with_reducible exact H) | (have H2_ := (Option.bind_some _ _).symm.trans H; rw [hy378]; with_reducible exact H2_) | (have H2_ := (Option.bind_some _ _).symm.trans H; with_reducible exact H2_) | with_reducible exact H | (rw [hy378]; exact H) | exact H
   have Ny378 := Aside0.mk hy378
   clear hy378
   by_cases c8 : 0 ≤ t373
   ·rw [if_pos c8] at H
    have c8b0 := eq_true c8
    have c8b1 : decide (0 ≤ t373) = true := decide_eq_true c8
    clear c8
    by_cases c9 : t373 ≤ (t374.length : Int)
    ·rw [if_pos c9] at H
     have c9b0 := eq_true c9
     have c9b1 : decide (t373 ≤ (t374.length : Int)) = true := decide_eq_true c9
     clear c9
     obtain ⟨y381, hy381⟩ : ∃ y_ : List Int, y_ = (t374.take (t373 : Int).toNat) := ⟨_, rfl⟩
     replace H : (if y378.length + y381.length < 140737488355328 then ((some (([] : List Int) : List Int)).bind fun y389 => ((some (t374.drop (t373 : Int).toNat : List Int)).bind fun y392 => (if y389.length + y392.length < 140737488355328 then (some ((y378 ++ y381), (y389 ++ y392), 0)) else (none)))) else (none)) = some (r1, r2, r3) := by first | (rw [hy381]; with_reducible exact H) | (have H2_ := (Option.bind_some _ _).symm.trans H; rw [hy381]; with_reducible exact H2_) | (have H2_ := (Option.bind_some _ _).symm.trans H; with_reducible exact H2_) | with_reducible exact H | (rw [hy381]; exact H) | exact H
     have Ny381 := Aside0.mk hy381
     clear hy381
     by_cases c10 : y378.length + y381.length < 140737488355328
     ·rw [if_pos c10] at H
      have LMc10 := Aside0.mk c10
      clear c10
      obtain ⟨y386, hy386⟩ : ∃ y_ : List Int, y_ = (y378 ++ y381) := ⟨_, rfl⟩
      replace H : ((some (([] : List Int) : List Int)).bind fun y389 => ((some (t374.drop (t373 : Int).toNat : List Int)).bind fun y392 => (if y389.length + y392.length < 140737488355328 then (some (y386, (y389 ++ y392), 0)) else (none)))) = some (r1, r2, r3) := by first | (rw [hy386]; with_reducible exact H) | (have H2_ := (Option.bind_some _ _).symm.trans H; rw [hy386]; with_reducible exact H2_) | (have H2_ := (Option.bind_some _ _).symm.trans H; with_reducible exact H2_) | with_reducible exact H | (rw [hy386]; exact H) | exact H
      have Ny386 := Aside0.mk hy386
      clear hy386
      obtain ⟨y389, hy389⟩ : ∃ y_ : List Int, y_ = (([] : List Int)) := ⟨_, rfl⟩
      replace H : ((some (t374.drop (t373 : Int).toNat : List Int)).bind fun y392 => (if y389.length + y392.length < 140737488355328 then (some (y386, (y389 ++ y392), 0)) else (none))) = some (r1, r2, r3) := by first | (rw [hy389]; with_reducible exact H) | (have H2_ := (Option.bind_some _ _).symm.trans H; rw [hy389]; with_reducible exact H2_) | (have H2_ := (Option.bind_some _ _).symm.trans H; with_reducible exact H2_) | with_reducible exact H | (rw [hy389]; exact H) | exact H
      have Ny389 := Aside0.mk hy389
      clear hy389
      have c11b0 := eq_true (of_decide_eq_true q7_ : 0 ≤ t373)
      have c12b0 := eq_true (of_decide_eq_true q7_ : t373 ≤ (t374.length : Int))
      obtain ⟨y392, hy392⟩ : ∃ y_ : List Int, y_ = (t374.drop (t373 : Int).toNat) := ⟨_, rfl⟩
      replace H : (if y389.length + y392.length < 140737488355328 then (some (y386, (y389 ++ y392), 0)) else (none)) = some (r1, r2, r3) := by first | (rw [hy392]; with_reducible exact H) | (have H2_ := (Option.bind_some _ _).symm.trans H; rw [hy392]; with_reducible exact H2_) | (have H2_ := (Option.bind_some _ _).symm.trans H; with_reducible exact H2_) | with_reducible exact H | (rw [hy392]; exact H) | exact H
      have Ny392 := Aside0.mk hy392
      clear hy392
      by_cases c13 : y389.length + y392.length < 140737488355328
      ·rw [if_pos c13] at H
       have LMc13 := Aside0.mk c13
       clear c13
       obtain ⟨y397, hy397⟩ : ∃ y_ : List Int, y_ = (y389 ++ y392) := ⟨_, rfl⟩
       replace H : (some (y386, y397, 0)) = some (r1, r2, r3) := by first | (rw [hy397]; with_reducible exact H) | (have H2_ := (Option.bind_some _ _).symm.trans H; rw [hy397]; with_reducible exact H2_) | (have H2_ := (Option.bind_some _ _).symm.trans H; with_reducible exact H2_) | with_reducible exact H | (rw [hy397]; exact H) | exact H
       have Ny397 := Aside0.mk hy397
       clear hy397
       simp only [Option.some.injEq, Prod.mk.injEq] at H
       obtain ⟨rfl, rfl, rfl⟩ := H
       go_enter Tryd.func54, Tryd.ntmps54
       try go_wp2_with (first | ((with_reducible refine gate_callee (f := 39) rfl ?_); refine goesL_ (some 13) rfl rfl Tryd.func39 q18_ rfl #[.slice A0 l0.length c0, .int .i64 a1] rfl q1_ ?_; (with_reducible refine (cambiumref01_Take.calls k _ _ l0 a1 t373 t374 t377 _ ?side1 ?side2 A3.out).mono ?_); (case side1 => repeat (first | exact HR0.out | (with_reducible refine Kd.C_alloc ?_ _) | (with_reducible refine Kd.C_drewN ?_ _) | (with_reducible refine Kd.C_drew ?_))); (case side2 => exact HC0.out); rintro e w14 ⟨v375, rfl, ho0, hb⟩; refine ⟨_, rfl, ?_⟩; have n0_ := Aside0.mk (Kd.V_lower (Kd.V_mono (ok' := fun k_ => True) ho0 (fun k_ hk_ => trivial)) (below_size q0_)); have n1_ := Aside0.mk (below_step q0_ hb); clear HB; have HO376 := n0_; have HB := n1_; clear n0_ n1_; (try clear hb); (try clear hb2); (try clear hk); (try clear hi); (try clear ho0); obtain ⟨Ao15, co15, eo15⟩ := Kd.V_slice HO376.out; subst eo15))
       have n0_ := Aside0.mk (Kd.V_drew HO376.out)
       have n1_ := Aside0.mk (below_drew1 HB.out)
       clear HO376
       clear HB
       have HO376 := n0_
       have HB := n1_
       clear n0_ n1_
       have q17 : (t373 : Int) ≤ ((t374.length : Int) : Int) := of_decide_eq_true q7_
       obtain ⟨i017, hi017, _, hsz17, _⟩ := info_parts info5
       have hroom17 : t374.length ≤ co15 := (Kd.V_reads' HO376.out).2.1
       have hC17 : Kd.F (Kd.int .u8) _ _ Ao15 t374.length t374 := (Kd.V_at (base := w.heap.size) HO376.out).2.2
       have hcut17 := cut_to (P := Tryd.prog) 35 5 .i64 Tryd.underlying35 hi017 Ao15 t374.length co15 t373 (of_decide_eq_true q7_) q17 hroom17
       have hr17 := Kd.F_take (m := (t373 : Int).toNat) hC17 (by omega)
       have hy17 : y381.length = (t373 : Int).toNat := (by rw [Ny381.out, List.length_take]; omega)
       rw [← Ny381.out] at hr17
       rw [← hy17] at hcut17
       have HO385 := Aside0.mk (show Kd.V (Kd.int .u8) 5 _ w.heap.size _ (.slice Ao15 y381.length co15) y381 from Kd.V_mk (by omega) hr17)
       have HC385 := Aside0.mk (show y381.length ≤ co15 from by omega)
       clear hr17 hC17 hroom17 hi017 hsz17
       have KY17 := Aside0.mk hy17
       clear hy17
       replace q17 := eq_true q17
       have q18 : (t373 : Int) ≤ ((t374.length : Int) : Int) := of_decide_eq_true q7_
       obtain ⟨i018, hi018, _, hsz18, _⟩ := info_parts info5
       have hroom18 : t374.length ≤ co15 := (Kd.V_reads' HO376.out).2.1
       have hC18 : Kd.F (Kd.int .u8) _ _ Ao15 t374.length t374 := (Kd.V_at (base := w.heap.size) HO376.out).2.2
       have q018 : (0 : Int) ≤ (t373 : Int) := of_decide_eq_true q7_
       have hcut18 := cut_from (P := Tryd.prog) 35 5 .i64 Tryd.underlying35 hi018 1 hsz18 Ao15 t374.length co15 t373 q018 q18
       have hr18 := Kd.F_cut (m := (t373 : Int).toNat) (c := co15) hC18 (by omega) hroom18
       obtain ⟨A18, hA18⟩ : ∃ A1, A1 = (if co15 = (t373 : Int).toNat then Ao15 else (Ao15 : Option Addr).map (·.add ((t373 : Int).toNat * 1))) := ⟨_, rfl⟩
       obtain ⟨c18, hc18⟩ : ∃ c1, c1 = co15 - (t373 : Int).toNat := ⟨_, rfl⟩
       have hy18 : y392.length = t374.length - (t373 : Int).toNat := (by rw [Ny392.out, List.length_drop] <;> omega)
       rw [show (t374).drop (t373 : Int).toNat = y392 from Ny392.out.symm] at hr18
       replace hr18 : Kd.F (Kd.int .u8) _ _ A18 y392.length y392 := (by rw [hA18]; exact hr18)
       rw [← hy18, ← hA18, ← hc18] at hcut18
       have HO396 := Aside0.mk (show Kd.V (Kd.int .u8) 5 _ w.heap.size _ (.slice A18 y392.length c18) y392 from Kd.V_mk (by rw [hy18, hc18]; exact Nat.sub_le_sub_right hroom18 _) hr18)
       have HC396 := Aside0.mk (show y392.length ≤ c18 from by rw [hy18, hc18]; exact Nat.sub_le_sub_right hroom18 _)
       clear hr18 hC18 hroom18 hi018 hsz18 hc18
       have KY18 := Aside0.mk hy18
       have KA18 := Aside0.mk hA18
       clear hy18 hA18
       replace q18 := eq_true q18
       refine start_ (n := 13) (S := fun w' => True) (ds := []) (bl_ 13 0) q18_ rfl rfl trivial (fun hHeld => ?_); refine with_tabW cambiumref01_take.tab4 cambiumref01_take.bits4 (fun HT_ HW_ => ?_)
       generalize w14.drew = w16 at HO376 HB HO385 HO396 hHeld ⊢
       refine pure_ (i := 1) (N := some 26) (v := ?_) (a' := ?_) (bl_ 13 2) rfl rfl (any_of HT_.out q18_) (fun _ _ _ h => h) (Or.inl ⟨by rfl, ?_⟩) ?_ ?_
       rotate_left
       ·intro w'
        go_simp
        with_reducible rfl
       rotate_left
       ·simp only [Act.put, List.setIfInBounds_toArray, List.set_cons_zero, List.set_cons_succ, i64_w, i32_w]
        rfl
       refine pure_ (i := 2) (N := some 27) (v := ?_) (a' := ?_) (bl_ 13 6) rfl rfl (any_of HT_.out q18_) (fun _ _ _ h => h) (Or.inl ⟨by rfl, ?_⟩) ?_ ?_
       rotate_left
       ·intro w'
        go_simp
        with_reducible rfl
       rotate_left
       ·simp only [Act.put, List.setIfInBounds_toArray, List.set_cons_zero, List.set_cons_succ, i64_w, i32_w]
        rfl
       refine pure_ (i := 3) (N := some 28) (v := ?_) (a' := ?_) (bl_ 13 14) rfl rfl (any_of HT_.out q18_) (fun _ _ _ h => h) (Or.inl ⟨by rfl, ?_⟩) ?_ ?_
       rotate_left
       ·intro w'
        go_simp
        with_reducible rfl
       rotate_left
       ·simp only [Act.put, List.setIfInBounds_toArray, List.set_cons_zero, List.set_cons_succ, i64_w, i32_w]
        rfl
       refine pure_ (i := 6) (N := some 31) (v := ?_) (a' := ?_) (bl_ 13 78) rfl rfl (any_of HT_.out q18_) (fun _ _ _ h => h) (Or.inl ⟨by rfl, ?_⟩) ?_ ?_
       rotate_left
       ·intro w'
        go_simp
        with_reducible rfl
       rotate_left
       ·simp only [Act.put, List.setIfInBounds_toArray, List.set_cons_zero, List.set_cons_succ, i64_w, i32_w]
        rfl
       refine pure_ (i := 7) (N := some 32) (v := ?_) (a' := ?_) (bl_ 13 206) rfl rfl (any_of HT_.out q18_) (fun _ _ _ h => h) (Or.inl ⟨by rfl, ?_⟩) ?_ ?_
       rotate_left
       ·intro w'
        go_simp
        with_reducible rfl
       rotate_left
       ·simp only [Act.put, List.setIfInBounds_toArray, List.set_cons_zero, List.set_cons_succ, i64_w, i32_w]
        rfl
       refine pure_ (i := 8) (N := some 33) (v := ?_) (a' := ?_) (bl_ 13 462) rfl rfl (any_of HT_.out q18_) (fun _ _ _ h => h) (Or.inl ⟨by rfl, ?_⟩) ?_ ?_
       rotate_left
       ·intro w'
        go_simp
        with_reducible rfl
       rotate_left
       ·simp only [Act.put, List.setIfInBounds_toArray, List.set_cons_zero, List.set_cons_succ, i64_w, i32_w]
        rfl
       refine join_ (σ := Value × Value × Value) 4 (bl_ 13 511) (fun s_ => [(25, s_.1), (29, s_.2.1), (30, s_.2.2)]) (fun s_ w' => (Kd.V (Kd.int .u8) 5 w' w.heap.size (fun k_ => some k_ ≠ (s_.2.1 : Value).ownBlock ∧ some k_ ≠ (s_.2.2 : Value).ownBlock) (.slice Ao15 t374.length co15) t374) ∧ (Kd.V (Kd.int .u8) 5 w' w.heap.size (fun k_ => some k_ ≠ (s_.2.1 : Value).ownBlock ∧ some k_ ≠ (s_.2.2 : Value).ownBlock) (.slice Ao15 y381.length co15) y381) ∧ (Kd.R (Kd.int .u8) 5 w' w.heap.size (fun k_ => some k_ ≠ (s_.2.2 : Value).ownBlock) s_.2.1 y386) ∧ (Kd.R (Kd.int .u8) 5 w' w.heap.size (fun k_ => some k_ ≠ (s_.2.1 : Value).ownBlock) s_.2.2 y389) ∧ (Kd.V (Kd.int .u8) 5 w' w.heap.size (fun k_ => some k_ ≠ (s_.2.1 : Value).ownBlock ∧ some k_ ≠ (s_.2.2 : Value).ownBlock) (.slice A18 y392.length c18) y392) ∧ (Below w.heap.size w w')) ?_ ?_
       rotate_left
       ·intro hCont
        refine two_ (i := 0) (j := 5) (Ni := some 25) (Nj := some 30) (bl_ 13 463) (bl_ 13 494) rfl rfl rfl rfl (two_of HT_.out q18_) q81_ q81_ (fun K hK => ?_) (fun K hK => ?_)
        ·skip
         refine Kd.R_lit_step (Kd.int .u8) _ 5 ?hg (N := 25) ?hd (xs := ([] : List Int)) (inner := []) (ok := fun _ => True) (okp := fun _ => True) ?hr ?hp (fun _ hk => hk) trivial (Below.refl _ _) (Nat.le_refl _) (by simp) ?_; (case hd => rfl); (case hg => rfl); (case hr => first | (go_simp; done) | (go_simp; rfl)); (case hp => exact (Reps.none _ _))
         intro v379 w19 ho20 hb hg_ hnew_
         clear hg_ hnew_
         (first | rw [← Ny378.out] at ho20 | (simp only [Int.reduceToNat] at ho20; rw [← Ny378.out] at ho20))
         have n0_ := Aside0.mk (Kd.V_elder' q61_ (Kd.R_base ho20) hb)
         have n1_ := Aside0.mk (Kd.V_elder' q62_ (Kd.R_base ho20) hb)
         have n2_ := Aside0.mk (Kd.V_elder' q63_ (Kd.R_base ho20) hb)
         have n3_ := Aside0.mk (Kd.R_lower ho20 (below_size q0_))
         have n4_ := Aside0.mk (below_step q0_ hb)
         clear HO376
         clear HO385
         clear HO396
         clear HB
         have HO376 := n0_
         have HO385 := n1_
         have HO396 := n2_
         have HO380 := n3_
         have HB := n4_
         clear n0_ n1_ n2_ n3_ n4_
         clear hb ho20
         refine hK.out _ _ trivial (fun hHeld => ?_)
         clear hK K
         refine norm_ (a' := ?_) ?_ ?_
         rotate_left
         ·show Act.put _ (some 25) _ = _
          simp only [Act.put, List.setIfInBounds_toArray, List.set_cons_zero, List.set_cons_succ, i64_w, i32_w]
          rfl
         refine two_ (i := 4) (j := 5) (Ni := some 29) (Nj := some 30) (bl_ 13 479) (bl_ 13 495) rfl rfl rfl rfl (two_of HT_.out q18_) q81_ q81_ (fun K hK => ?_) (fun K hK => ?_)
         ·skip
          refine Kd.R_append_rows_step (Kd.int .u8) (w0 := w) w.heap.size (by rfl) (.tmp 25) (.tmp 28) 35 5 (.int .u8 0) 1 rfl Tryd.underlying35 info5 rfl q81_ (by omega) v379 y378 y381 _ _ _ (fun _ => True) (fun _ => False) rfl rfl ?aO ?aR (fun _ _ h => h) (fun _ h => h.elim) ?aF ?aB ?aS ?aL ?_
          (case aR => repeat (first | exact (Kd.V_reads' HO385.out).2.2 | (with_reducible refine Kd.C_alloc ?_ _) | (with_reducible refine Kd.C_drewN ?_ _) | (with_reducible refine Kd.C_drew ?_)))
          (case aB => exact q0_)
          (case aF => exact (fun _ _ => trivial))
          (case aO => exact (by (with_reducible repeat (first | apply Kd.R_alloc | apply Kd.R_drewN | apply Kd.R_drew)); exact HO380.out))
          (case aS => exact (below_size q0_))
          (case aL => have := LMc10.out; omega)
          intro v387 w21 ho hb hg hat
          rw [← Ny386.out] at ho
          have n0_ := Aside0.mk (Kd.V_afterv (ok := (fun _ => True)) q61_ hg hat)
          have n1_ := Aside0.mk (Kd.V_afterv (ok := (fun _ => True)) q62_ hg hat)
          have n2_ := Aside0.mk (Kd.V_afterv (ok := (fun _ => True)) q63_ hg hat)
          have n3_ := Aside0.mk (hb)
          have n4_ := Aside0.mk (ho)
          clear HO376
          clear HO385
          clear HO396
          clear HB
          clear HO380
          have HO376 := n0_
          have HO385 := n1_
          have HO396 := n2_
          have HB := n3_
          have HO388 := n4_
          clear n0_ n1_ n2_ n3_ n4_
          clear ho hb hg hat
          refine hK.out _ _ trivial (fun hHeld => ?_)
          clear hK K
          refine norm_ (a' := ?_) ?_ ?_
          rotate_left
          ·show Act.put _ (some 29) _ = _
           simp only [Act.put, List.setIfInBounds_toArray, List.set_cons_zero, List.set_cons_succ, i64_w, i32_w]
           rfl
          refine one_ (i := 5) (N := some 30) (bl_ 13 511) rfl rfl (one_of HT_.out q18_) q81_ (fun K hK => ?_)
          refine Kd.R_lit_step (Kd.int .u8) _ 5 ?hg (N := 30) ?hd (xs := ([] : List Int)) (inner := []) (ok := fun _ => True) (okp := fun _ => True) ?hr ?hp (fun _ hk => hk) trivial (Below.refl _ _) (Nat.le_refl _) (by simp) ?_; (case hd => rfl); (case hg => rfl); (case hr => first | (go_simp; done) | (go_simp; rfl)); (case hp => exact (Reps.none _ _))
          intro v390 w22 ho23 hb hg_ hnew_
          clear hg_ hnew_
          (first | rw [← Ny389.out] at ho23 | (simp only [Int.reduceToNat] at ho23; rw [← Ny389.out] at ho23))
          have n0_ := Aside0.mk (Kd.V_elder' q61_ (Kd.R_base ho23) hb)
          have n1_ := Aside0.mk (Kd.V_elder' q62_ (Kd.R_base ho23) hb)
          have n2_ := Aside0.mk (Kd.V_elder' q63_ (Kd.R_base ho23) hb)
          have n3_ := Aside0.mk (Kd.R_elder' q73_ (Kd.R_base ho23) hb)
          have n4_ := Aside0.mk (Kd.R_lower (Kd.R_new' ho23 (Kd.R_lt q73_)) (below_size q0_))
          have n5_ := Aside0.mk (below_step q0_ hb)
          clear HO376
          clear HO385
          clear HO396
          clear HO388
          clear HB
          have HO376 := n0_
          have HO385 := n1_
          have HO396 := n2_
          have HO388 := n3_
          have HO391 := n4_
          have HB := n5_
          clear n0_ n1_ n2_ n3_ n4_ n5_
          clear hb ho23
          refine hK.out _ _ trivial (fun hHeld => ?_)
          clear hK K
          refine norm_ (a' := ?_) ?_ ?_
          rotate_left
          ·show Act.put _ (some 30) _ = _
           simp only [Act.put, List.setIfInBounds_toArray, List.set_cons_zero, List.set_cons_succ, i64_w, i32_w]
           rfl
          exact norm_ (by simp only [putAll, Act.put, List.setIfInBounds_toArray, List.set_cons_zero, List.set_cons_succ]) (hCont (v379, v387, v390) _ ⟨(by (with_reducible repeat (first | apply Kd.V_alloc | apply Kd.V_drewN | apply Kd.V_drew)); exact Kd.V_mono HO376.out (fun _ hk => ⟨hk.1.2, hk.2⟩)), (by (with_reducible repeat (first | apply Kd.V_alloc | apply Kd.V_drewN | apply Kd.V_drew)); exact Kd.V_mono HO385.out (fun _ hk => ⟨hk.1.2, hk.2⟩)), (by (with_reducible repeat (first | apply Kd.R_alloc | apply Kd.R_drewN | apply Kd.R_drew)); exact Kd.R_mono HO388.out (fun _ hk => hk.2)), (by (with_reducible repeat (first | apply Kd.R_alloc | apply Kd.R_drewN | apply Kd.R_drew)); exact Kd.R_mono HO391.out (fun _ hk => hk.2)), (by (with_reducible repeat (first | apply Kd.V_alloc | apply Kd.V_drewN | apply Kd.V_drew)); exact Kd.V_mono HO396.out (fun _ hk => ⟨hk.1.2, hk.2⟩)), q0_⟩)
         ·skip
          refine Kd.R_lit_step (Kd.int .u8) _ 5 ?hg (N := 30) ?hd (xs := ([] : List Int)) (inner := []) (ok := fun _ => True) (okp := fun _ => True) ?hr ?hp (fun _ hk => hk) trivial (Below.refl _ _) (Nat.le_refl _) (by simp) ?_; (case hd => rfl); (case hg => rfl); (case hr => first | (go_simp; done) | (go_simp; rfl)); (case hp => exact (Reps.none _ _))
          intro v390 w21 ho22 hb hg_ hnew_
          clear hg_ hnew_
          (first | rw [← Ny389.out] at ho22 | (simp only [Int.reduceToNat] at ho22; rw [← Ny389.out] at ho22))
          have n0_ := Aside0.mk (Kd.V_elder' q61_ (Kd.R_base ho22) hb)
          have n1_ := Aside0.mk (Kd.V_elder' q62_ (Kd.R_base ho22) hb)
          have n2_ := Aside0.mk (Kd.V_elder' q63_ (Kd.R_base ho22) hb)
          have n3_ := Aside0.mk (Kd.R_elder' (by (with_reducible repeat (first | apply Kd.R_alloc | apply Kd.R_drewN | apply Kd.R_drew)); exact HO380.out) (Kd.R_base ho22) hb)
          have n4_ := Aside0.mk (Kd.R_lower (Kd.R_new' ho22 (Kd.R_lt (by (with_reducible repeat (first | apply Kd.R_alloc | apply Kd.R_drewN | apply Kd.R_drew)); exact HO380.out))) (below_size q0_))
          have n5_ := Aside0.mk (below_step q0_ hb)
          clear HO376
          clear HO385
          clear HO396
          clear HO380
          clear HB
          have HO376 := n0_
          have HO385 := n1_
          have HO396 := n2_
          have HO380 := n3_
          have HO391 := n4_
          have HB := n5_
          clear n0_ n1_ n2_ n3_ n4_ n5_
          clear hb ho22
          refine hK.out _ _ trivial (fun hHeld => ?_)
          clear hK K
          refine norm_ (a' := ?_) ?_ ?_
          rotate_left
          ·show Act.put _ (some 30) _ = _
           simp only [Act.put, List.setIfInBounds_toArray, List.set_cons_zero, List.set_cons_succ, i64_w, i32_w]
           rfl
          refine one_ (i := 4) (N := some 29) (bl_ 13 511) rfl rfl (one_of HT_.out q18_) q81_ (fun K hK => ?_)
          refine Kd.R_append_rows_step (Kd.int .u8) (w0 := w) w.heap.size (by rfl) (.tmp 25) (.tmp 28) 35 5 (.int .u8 0) 1 rfl Tryd.underlying35 info5 rfl q81_ (by omega) v379 y378 y381 _ _ _ (fun k_ => some k_ ≠ (v390 : Value).ownBlock) (fun _ => False) rfl rfl ?aO ?aR (fun _ _ h => h) (fun _ h => h.elim) ?aF ?aB ?aS ?aL ?_
          (case aR => repeat (first | exact (Kd.V_reads' HO385.out).2.2 | (with_reducible refine Kd.C_alloc ?_ _) | (with_reducible refine Kd.C_drewN ?_ _) | (with_reducible refine Kd.C_drew ?_)))
          (case aB => exact q0_)
          (case aF => exact (fun k_ hk => Kd.fresh' (Kd.R_lt q64_) k_ hk))
          (case aO => exact (by (with_reducible repeat (first | apply Kd.R_alloc | apply Kd.R_drewN | apply Kd.R_drew)); exact Kd.R_mono HO380.out (fun _ hk => hk.2)))
          (case aS => exact (below_size q0_))
          (case aL => have := LMc10.out; omega)
          intro v387 w23 ho hb hg hat
          rw [← Ny386.out] at ho
          have n0_ := Aside0.mk (Kd.V_afterv (ok := (fun k_ => some k_ ≠ (v390 : Value).ownBlock)) (by (with_reducible repeat (first | apply Kd.V_alloc | apply Kd.V_drewN | apply Kd.V_drew)); exact Kd.V_mono HO376.out (fun _ hk => ⟨hk.2, hk.1.2⟩)) hg hat)
          have n1_ := Aside0.mk (Kd.V_afterv (ok := (fun k_ => some k_ ≠ (v390 : Value).ownBlock)) (by (with_reducible repeat (first | apply Kd.V_alloc | apply Kd.V_drewN | apply Kd.V_drew)); exact Kd.V_mono HO385.out (fun _ hk => ⟨hk.2, hk.1.2⟩)) hg hat)
          have n2_ := Aside0.mk (Kd.V_afterv (ok := (fun k_ => some k_ ≠ (v390 : Value).ownBlock)) (by (with_reducible repeat (first | apply Kd.V_alloc | apply Kd.V_drewN | apply Kd.V_drew)); exact Kd.V_mono HO396.out (fun _ hk => ⟨hk.2, hk.1.2⟩)) hg hat)
          have n3_ := Aside0.mk (Kd.R_after (ok := (fun _ => True)) q64_ hg hat)
          have n4_ := Aside0.mk (hb)
          have n5_ := Aside0.mk (ho)
          clear HO376
          clear HO385
          clear HO396
          clear HO391
          clear HB
          clear HO380
          have HO376 := n0_
          have HO385 := n1_
          have HO396 := n2_
          have HO391 := n3_
          have HB := n4_
          have HO388 := n5_
          clear n0_ n1_ n2_ n3_ n4_ n5_
          clear ho hb hg hat
          refine hK.out _ _ trivial (fun hHeld => ?_)
          clear hK K
          refine norm_ (a' := ?_) ?_ ?_
          rotate_left
          ·show Act.put _ (some 29) _ = _
           simp only [Act.put, List.setIfInBounds_toArray, List.set_cons_zero, List.set_cons_succ, i64_w, i32_w]
           rfl
          exact norm_ (by simp only [putAll, Act.put, List.setIfInBounds_toArray, List.set_cons_zero, List.set_cons_succ]) (hCont (v379, v387, v390) _ ⟨(by (with_reducible repeat (first | apply Kd.V_alloc | apply Kd.V_drewN | apply Kd.V_drew)); exact Kd.V_mono HO376.out (fun _ hk => ⟨hk.2, hk.1⟩)), (by (with_reducible repeat (first | apply Kd.V_alloc | apply Kd.V_drewN | apply Kd.V_drew)); exact Kd.V_mono HO385.out (fun _ hk => ⟨hk.2, hk.1⟩)), q73_, (by (with_reducible repeat (first | apply Kd.R_alloc | apply Kd.R_drewN | apply Kd.R_drew)); exact Kd.R_mono HO391.out (fun _ hk => hk.2)), (by (with_reducible repeat (first | apply Kd.V_alloc | apply Kd.V_drewN | apply Kd.V_drew)); exact Kd.V_mono HO396.out (fun _ hk => ⟨hk.2, hk.1⟩)), q0_⟩)
        ·skip
         refine Kd.R_lit_step (Kd.int .u8) _ 5 ?hg (N := 30) ?hd (xs := ([] : List Int)) (inner := []) (ok := fun _ => True) (okp := fun _ => True) ?hr ?hp (fun _ hk => hk) trivial (Below.refl _ _) (Nat.le_refl _) (by simp) ?_; (case hd => rfl); (case hg => rfl); (case hr => first | (go_simp; done) | (go_simp; rfl)); (case hp => exact (Reps.none _ _))
         intro v390 w19 ho20 hb hg_ hnew_
         clear hg_ hnew_
         (first | rw [← Ny389.out] at ho20 | (simp only [Int.reduceToNat] at ho20; rw [← Ny389.out] at ho20))
         have n0_ := Aside0.mk (Kd.V_elder' q61_ (Kd.R_base ho20) hb)
         have n1_ := Aside0.mk (Kd.V_elder' q62_ (Kd.R_base ho20) hb)
         have n2_ := Aside0.mk (Kd.V_elder' q63_ (Kd.R_base ho20) hb)
         have n3_ := Aside0.mk (Kd.R_lower ho20 (below_size q0_))
         have n4_ := Aside0.mk (below_step q0_ hb)
         clear HO376
         clear HO385
         clear HO396
         clear HB
         have HO376 := n0_
         have HO385 := n1_
         have HO396 := n2_
         have HO391 := n3_
         have HB := n4_
         clear n0_ n1_ n2_ n3_ n4_
         clear hb ho20
         refine hK.out _ _ trivial (fun hHeld => ?_)
         clear hK K
         refine norm_ (a' := ?_) ?_ ?_
         rotate_left
         ·show Act.put _ (some 30) _ = _
          simp only [Act.put, List.setIfInBounds_toArray, List.set_cons_zero, List.set_cons_succ, i64_w, i32_w]
          rfl
         refine one_ (i := 0) (N := some 25) (bl_ 13 495) rfl rfl (one_of HT_.out q18_) q81_ (fun K hK => ?_)
         refine Kd.R_lit_step (Kd.int .u8) _ 5 ?hg (N := 25) ?hd (xs := ([] : List Int)) (inner := []) (ok := fun _ => True) (okp := fun _ => True) ?hr ?hp (fun _ hk => hk) trivial (Below.refl _ _) (Nat.le_refl _) (by simp) ?_; (case hd => rfl); (case hg => rfl); (case hr => first | (go_simp; done) | (go_simp; rfl)); (case hp => exact (Reps.none _ _))
         intro v379 w21 ho22 hb hg_ hnew_
         clear hg_ hnew_
         (first | rw [← Ny378.out] at ho22 | (simp only [Int.reduceToNat] at ho22; rw [← Ny378.out] at ho22))
         have n0_ := Aside0.mk (Kd.V_elder' q61_ (Kd.R_base ho22) hb)
         have n1_ := Aside0.mk (Kd.V_elder' q62_ (Kd.R_base ho22) hb)
         have n2_ := Aside0.mk (Kd.V_elder' q63_ (Kd.R_base ho22) hb)
         have n3_ := Aside0.mk (Kd.R_elder' q64_ (Kd.R_base ho22) hb)
         have n4_ := Aside0.mk (Kd.R_lower (Kd.R_new' ho22 (Kd.R_lt q64_)) (below_size q0_))
         have n5_ := Aside0.mk (below_step q0_ hb)
         clear HO376
         clear HO385
         clear HO396
         clear HO391
         clear HB
         have HO376 := n0_
         have HO385 := n1_
         have HO396 := n2_
         have HO391 := n3_
         have HO380 := n4_
         have HB := n5_
         clear n0_ n1_ n2_ n3_ n4_ n5_
         clear hb ho22
         refine hK.out _ _ trivial (fun hHeld => ?_)
         clear hK K
         refine norm_ (a' := ?_) ?_ ?_
         rotate_left
         ·show Act.put _ (some 25) _ = _
          simp only [Act.put, List.setIfInBounds_toArray, List.set_cons_zero, List.set_cons_succ, i64_w, i32_w]
          rfl
         refine one_ (i := 4) (N := some 29) (bl_ 13 511) rfl rfl (one_of HT_.out q18_) q81_ (fun K hK => ?_)
         refine Kd.R_append_rows_step (Kd.int .u8) (w0 := w) w.heap.size (by rfl) (.tmp 25) (.tmp 28) 35 5 (.int .u8 0) 1 rfl Tryd.underlying35 info5 rfl q81_ (by omega) v379 y378 y381 _ _ _ (fun k_ => some k_ ≠ (v390 : Value).ownBlock) (fun _ => False) rfl rfl ?aO ?aR (fun _ _ h => h) (fun _ h => h.elim) ?aF ?aB ?aS ?aL ?_
         (case aR => repeat (first | exact (Kd.V_reads' HO385.out).2.2 | (with_reducible refine Kd.C_alloc ?_ _) | (with_reducible refine Kd.C_drewN ?_ _) | (with_reducible refine Kd.C_drew ?_)))
         (case aB => exact q0_)
         (case aF => exact (fun k_ hk => Kd.fresh' (Kd.R_lt q64_) k_ hk))
         (case aO => exact (by (with_reducible repeat (first | apply Kd.R_alloc | apply Kd.R_drewN | apply Kd.R_drew)); exact Kd.R_mono HO380.out (fun _ hk => hk.2)))
         (case aS => exact (below_size q0_))
         (case aL => have := LMc10.out; omega)
         intro v387 w23 ho hb hg hat
         rw [← Ny386.out] at ho
         have n0_ := Aside0.mk (Kd.V_afterv (ok := (fun k_ => some k_ ≠ (v390 : Value).ownBlock)) (by (with_reducible repeat (first | apply Kd.V_alloc | apply Kd.V_drewN | apply Kd.V_drew)); exact Kd.V_mono HO376.out (fun _ hk => ⟨hk.1.2, hk.2⟩)) hg hat)
         have n1_ := Aside0.mk (Kd.V_afterv (ok := (fun k_ => some k_ ≠ (v390 : Value).ownBlock)) (by (with_reducible repeat (first | apply Kd.V_alloc | apply Kd.V_drewN | apply Kd.V_drew)); exact Kd.V_mono HO385.out (fun _ hk => ⟨hk.1.2, hk.2⟩)) hg hat)
         have n2_ := Aside0.mk (Kd.V_afterv (ok := (fun k_ => some k_ ≠ (v390 : Value).ownBlock)) (by (with_reducible repeat (first | apply Kd.V_alloc | apply Kd.V_drewN | apply Kd.V_drew)); exact Kd.V_mono HO396.out (fun _ hk => ⟨hk.1.2, hk.2⟩)) hg hat)
         have n3_ := Aside0.mk (Kd.R_after (ok := (fun _ => True)) q64_ hg hat)
         have n4_ := Aside0.mk (hb)
         have n5_ := Aside0.mk (ho)
         clear HO376
         clear HO385
         clear HO396
         clear HO391
         clear HB
         clear HO380
         have HO376 := n0_
         have HO385 := n1_
         have HO396 := n2_
         have HO391 := n3_
         have HB := n4_
         have HO388 := n5_
         clear n0_ n1_ n2_ n3_ n4_ n5_
         clear ho hb hg hat
         refine hK.out _ _ trivial (fun hHeld => ?_)
         clear hK K
         refine norm_ (a' := ?_) ?_ ?_
         rotate_left
         ·show Act.put _ (some 29) _ = _
          simp only [Act.put, List.setIfInBounds_toArray, List.set_cons_zero, List.set_cons_succ, i64_w, i32_w]
          rfl
         exact norm_ (by simp only [putAll, Act.put, List.setIfInBounds_toArray, List.set_cons_zero, List.set_cons_succ]) (hCont (v379, v387, v390) _ ⟨(by (with_reducible repeat (first | apply Kd.V_alloc | apply Kd.V_drewN | apply Kd.V_drew)); exact Kd.V_mono HO376.out (fun _ hk => ⟨hk.2, hk.1⟩)), (by (with_reducible repeat (first | apply Kd.V_alloc | apply Kd.V_drewN | apply Kd.V_drew)); exact Kd.V_mono HO385.out (fun _ hk => ⟨hk.2, hk.1⟩)), q73_, (by (with_reducible repeat (first | apply Kd.R_alloc | apply Kd.R_drewN | apply Kd.R_drew)); exact Kd.R_mono HO391.out (fun _ hk => hk.2)), (by (with_reducible repeat (first | apply Kd.V_alloc | apply Kd.V_drewN | apply Kd.V_drew)); exact Kd.V_mono HO396.out (fun _ hk => ⟨hk.2, hk.1⟩)), q0_⟩)
       rintro ⟨v379, v387, v390⟩ w24 ⟨h0_, h1_, h2_, h3_, h4_, h5_⟩
       have n0_ : Aside0 (Kd.V (Kd.int .u8) 5 w24 w.heap.size (fun k_ => some k_ ≠ (v387 : Value).ownBlock ∧ some k_ ≠ (v390 : Value).ownBlock) (.slice Ao15 t374.length co15) t374) := ⟨h0_⟩
       have n1_ : Aside0 (Kd.V (Kd.int .u8) 5 w24 w.heap.size (fun k_ => some k_ ≠ (v387 : Value).ownBlock ∧ some k_ ≠ (v390 : Value).ownBlock) (.slice Ao15 y381.length co15) y381) := ⟨h1_⟩
       have n2_ : Aside0 (Kd.R (Kd.int .u8) 5 w24 w.heap.size (fun k_ => some k_ ≠ (v390 : Value).ownBlock) v387 y386) := ⟨h2_⟩
       have n3_ : Aside0 (Kd.R (Kd.int .u8) 5 w24 w.heap.size (fun k_ => some k_ ≠ (v387 : Value).ownBlock) v390 y389) := ⟨h3_⟩
       have n4_ : Aside0 (Kd.V (Kd.int .u8) 5 w24 w.heap.size (fun k_ => some k_ ≠ (v387 : Value).ownBlock ∧ some k_ ≠ (v390 : Value).ownBlock) (.slice A18 y392.length c18) y392) := ⟨h4_⟩
       have n5_ : Aside0 (Below w.heap.size w w24) := ⟨h5_⟩
       clear HO376
       clear HB
       clear h0_ h1_ h2_ h3_ h4_ h5_
       have HO376 := n0_
       have HO385 := n1_
       have HO388 := n2_
       have HO391 := n3_
       have HO396 := n4_
       have HB := n5_
       clear n0_ n1_ n2_ n3_ n4_ n5_
       have hHeld := trivial
       refine norm_ (a' := ?_) ?_ ?_
       rotate_left
       ·simp only [putAll, Act.put, List.setIfInBounds_toArray, List.set_cons_zero, List.set_cons_succ]
        rfl
       refine one_ (i := 9) (N := some 34) (bl_ 13 1023) rfl rfl (one_of HT_.out q18_) q81_ (fun K hK => ?_)
       refine Kd.R_append_rows_step (Kd.int .u8) (w0 := w) w.heap.size (by rfl) (.tmp 30) (.tmp 33) 35 5 (.int .u8 0) 1 rfl Tryd.underlying35 info5 rfl q81_ (by omega) v390 y389 y392 _ _ _ (fun k_ => some k_ ≠ (v387 : Value).ownBlock) (fun _ => False) rfl rfl ?aO ?aR (fun _ _ h => h) (fun _ h => h.elim) ?aF ?aB ?aS ?aL ?_
       (case aR => repeat (first | exact (Kd.V_reads' HO396.out).2.2 | (with_reducible refine Kd.C_alloc ?_ _) | (with_reducible refine Kd.C_drewN ?_ _) | (with_reducible refine Kd.C_drew ?_)))
       (case aB => exact q0_)
       (case aF => exact (fun k_ hk => Kd.fresh' (Kd.R_lt q73_) k_ hk))
       (case aO => exact q64_)
       (case aS => exact (below_size q0_))
       (case aL => have := LMc13.out; omega)
       intro v398 w25 ho hb hg hat
       rw [← Ny397.out] at ho
       have n0_ := Aside0.mk (Kd.V_afterv (ok := (fun k_ => some k_ ≠ (v387 : Value).ownBlock)) q61_ hg hat)
       have n1_ := Aside0.mk (Kd.V_afterv (ok := (fun k_ => some k_ ≠ (v387 : Value).ownBlock)) q62_ hg hat)
       have n2_ := Aside0.mk (Kd.V_afterv (ok := (fun k_ => some k_ ≠ (v387 : Value).ownBlock)) q63_ hg hat)
       have n3_ := Aside0.mk (Kd.R_after (ok := (fun _ => True)) (by (with_reducible repeat (first | apply Kd.R_alloc | apply Kd.R_drewN | apply Kd.R_drew)); exact Kd.R_mono HO388.out (fun _ hk => ⟨trivial, hk⟩)) hg hat)
       have n4_ := Aside0.mk (hb)
       have n5_ := Aside0.mk (ho)
       clear HO376
       clear HO385
       clear HO396
       clear HO388
       clear HB
       clear HO391
       have HO376 := n0_
       have HO385 := n1_
       have HO396 := n2_
       have HO388 := n3_
       have HB := n4_
       have HO399 := n5_
       clear n0_ n1_ n2_ n3_ n4_ n5_
       clear ho hb hg hat
       refine hK.out _ _ trivial (fun hHeld => ?_)
       clear hK K
       refine norm_ (a' := ?_) ?_ ?_
       rotate_left
       ·show Act.put _ (some 34) _ = _
        simp only [Act.put, List.setIfInBounds_toArray, List.set_cons_zero, List.set_cons_succ, i64_w, i32_w]
        rfl
       refine pure_ (i := 10) (N := some 4) (v := ?_) (a' := ?_) (bl_ 13 2047) rfl rfl (any_of HT_.out q18_) (fun _ _ _ h => h) (Or.inl ⟨by rfl, ?_⟩) ?_ ?_
       rotate_left
       ·intro w'
        go_simp
        with_reducible rfl
       rotate_left
       ·simp only [Act.put, List.setIfInBounds_toArray, List.set_cons_zero, List.set_cons_succ, i64_w, i32_w]
        rfl
       refine pure_ (i := 11) (N := some 5) (v := ?_) (a' := ?_) (bl_ 13 4095) rfl rfl (any_of HT_.out q18_) (fun _ _ _ h => h) (Or.inl ⟨by rfl, ?_⟩) ?_ ?_
       rotate_left
       ·intro w'
        go_simp
        with_reducible rfl
       rotate_left
       ·simp only [Act.put, List.setIfInBounds_toArray, List.set_cons_zero, List.set_cons_succ, i64_w, i32_w]
        rfl
       refine pure_ (i := 12) (N := some 6) (v := ?_) (a' := ?_) (bl_ 13 8191) rfl rfl (any_of HT_.out q18_) (fun _ _ _ h => h) (Or.inl ⟨by rfl, ?_⟩) ?_ ?_
       rotate_left
       ·intro w'
        go_simp
        with_reducible rfl
       rotate_left
       ·simp only [Act.put, List.setIfInBounds_toArray, List.set_cons_zero, List.set_cons_succ, i64_w, i32_w]
        rfl
       refine done_ (done_of HT_.out q18_) ?_
       try go_wp2
       go_ret3
       exact ⟨_, _, by first | rfl | (simp [errW_none, errW_some] <;> rfl) | (simp [*, errW_none, errW_some] <;> rfl), by (with_reducible repeat (first | apply Kd.R_alloc | apply Kd.R_drewN | apply Kd.R_drew)); exact Kd.R_mono HO388.out (fun _ hk => hk.2), by (with_reducible repeat (first | apply Kd.R_alloc | apply Kd.R_drewN | apply Kd.R_drew)); exact HO399.out, by repeat (first | (with_reducible first | exact HB.out | apply below_alloc | apply pw_below_drewN | apply below_drew1) | exact HB.out)⟩
      ·rw [if_neg c13] at H
       exact absurd H (by simp)
     ·rw [if_neg c10] at H
      exact absurd H (by simp)
    ·rw [if_neg c9] at H
     exact absurd H (by simp)
   ·rw [if_neg c8] at H
    exact absurd H (by simp)
 ·rw [if_neg c4] at H
  have c4b0 : (t377 == 0) = false := beq_eq_false_iff_ne.mpr c4
  have c4b1 : (t377 != 0) = true := bne_iff_ne.mpr c4
  simp only [Option.some.injEq, Prod.mk.injEq] at H
  obtain ⟨rfl, rfl, rfl⟩ := H
  go_enter Tryd.func54, Tryd.ntmps54
  go_wp2_with (first | ((with_reducible refine gate_callee (f := 39) rfl ?_); refine goesL_ (some 13) rfl rfl Tryd.func39 q18_ rfl #[.slice A0 l0.length c0, .int .i64 a1] rfl q1_ ?_; (with_reducible refine (cambiumref01_Take.calls k _ _ l0 a1 t373 t374 t377 _ ?side1 ?side2 A3.out).mono ?_); (case side1 => repeat (first | exact HR0.out | (with_reducible refine Kd.C_alloc ?_ _) | (with_reducible refine Kd.C_drewN ?_ _) | (with_reducible refine Kd.C_drew ?_))); (case side2 => exact HC0.out); rintro e w26 ⟨v375, rfl, ho0, hb⟩; refine ⟨_, rfl, ?_⟩; have n0_ := Aside0.mk (Kd.V_lower (Kd.V_mono (ok' := fun k_ => True) ho0 (fun k_ hk_ => trivial)) (below_size q0_)); have n1_ := Aside0.mk (below_step q0_ hb); clear HB; have HO376 := n0_; have HB := n1_; clear n0_ n1_; (try clear hb); (try clear hb2); (try clear hk); (try clear hi); (try clear ho0)))
  go_ret3
  exact ⟨_, _, by first | rfl | (simp [errW_none, errW_some] <;> rfl) | (simp [*, errW_none, errW_some] <;> rfl), by first | exact Kd.R_nil _ _ _ _ _ | exact Kd.N_nil _ _ _ _ _ | exact Kd.V_nil _ _ _ _ _ | exact Kd.Q_nil _ _ _ _ _ | exact Kd.S_nil _ _ _ _ _, by first | exact Kd.R_nil _ _ _ _ _ | exact Kd.N_nil _ _ _ _ _ | exact Kd.V_nil _ _ _ _ _ | exact Kd.Q_nil _ _ _ _ _ | exact Kd.S_nil _ _ _ _ _, by repeat (first | (with_reducible first | exact HB.out | apply below_alloc | apply pw_below_drewN | apply below_drew1) | exact HB.out)⟩
def cambiumref01_TakeText.f (k : Nat) (l0 : List Int) : Option (ByteArray × List Int × Int) := (cambiumref01_take.f k l0 1).bind fun bt400 => (some (strOfNums bt400.1, bt400.2.1, bt400.2.2))
set_option maxHeartbeats 8000000 in
set_option maxRecDepth 100000 in
theorem cambiumref01_TakeText.calls (k : Nat) (A0 : Option Addr) (c0 : Nat) (l0 : List Int) (r1 : ByteArray) (r2 : List Int) (r3 : Int) (w : World) (hr0 : Kd.C (Kd.int .u8) w A0 l0.length l0) (hc0 : l0.length ≤ c0) (h : cambiumref01_TakeText.f k l0 = some (r1, r2, r3)) :
  Calls Tryd.prog 40 #[.slice A0 l0.length c0] w fun e w' => ∃ v1_ : Value, e = .returned (.tuple #[.string r1, v1_, .int .i64 r3]) ∧ Kd.R (Kd.int .u8) 5 w' w.heap.size (fun _ => True) v1_ r2 ∧ Below w.heap.size w w' := by
 have HR0 := Aside0.mk hr0
 have HC0 := Aside0.mk hc0
 clear hr0 hc0
 have HB := Aside0.mk (Below.refl w.heap.size w)
 have H : ((cambiumref01_take.f k l0 1).bind fun bt400 => (some (strOfNums bt400.1, bt400.2.1, bt400.2.2))) = some (r1, r2, r3) := h
 clear h
 replace H := Option.bind_eq_some_iff.mp H
 obtain ⟨⟨t400, t401, t402⟩, A20, H⟩ := H
 replace H : (some (strOfNums t400, t401, t402)) = some (r1, r2, r3) := H
 have A2 := Aside0.mk A20
 clear A20
 simp only [Option.some.injEq, Prod.mk.injEq] at H
 obtain ⟨rfl, rfl, rfl⟩ := H
 go_enter Tryd.func40, Tryd.ntmps40
 go_wp2_with (first | ((with_reducible refine gate_callee (f := 54) rfl ?_); refine goesL_ (some 10) rfl rfl Tryd.func54 q18_ rfl #[.slice A0 l0.length c0, .int .i64 1] rfl q1_ ?_; (with_reducible refine (cambiumref01_take.calls k _ _ l0 1 t400 t401 t402 _ ?side1 ?side2 A2.out).mono ?_); (case side1 => repeat (first | exact HR0.out | (with_reducible refine Kd.C_alloc ?_ _) | (with_reducible refine Kd.C_drewN ?_ _) | (with_reducible refine Kd.C_drew ?_))); (case side2 => exact HC0.out); rintro e w3 ⟨v403, v405, rfl, ho0, ho1, hb⟩; refine ⟨_, rfl, ?_⟩; have n0_ := Aside0.mk (Kd.R_lower ho0 (below_size q0_)); have n1_ := Aside0.mk (Kd.R_lower ho1 (below_size q0_)); have n2_ := Aside0.mk (below_step q0_ hb); clear HB; have HO404 := n0_; have HO406 := n1_; have HB := n2_; clear n0_ n1_ n2_; (try clear hb); (try clear hb2); (try clear hk); (try clear hi); (try clear ho0); (try clear ho1); (first | (have hcv4 := own_string (P := Tryd.prog) Tryd.underlying35 Tryd.underlying5 Tryd.underlying9 (Kd.own_of_R HO404.out); have hcv4n := fun n_ : Nat => own_string (P := Tryd.prog) Tryd.underlying35 Tryd.underlying5 Tryd.underlying9 (Kd.own_of_R (Kd.R_drewN HO404.out n_))) | (have hcv4 := fun c_ : Nat => Kd.C_string (c := c_) (P := Tryd.prog) Tryd.underlying35 Tryd.underlying5 Tryd.underlying9 (Kd.V_reads' HO404.out).2.2; have hcv4n := fun (c_ n_ : Nat) => Kd.C_string (c := c_) (P := Tryd.prog) Tryd.underlying35 Tryd.underlying5 Tryd.underlying9 (Kd.C_drewN (Kd.V_reads' HO404.out).2.2 n_)) | (have hcv4 := Own.V_string (P := Tryd.prog) Tryd.underlying35 Tryd.underlying5 Tryd.underlying9 HO404.out; have hcv4n := fun (n_ : Nat) => Own.V_string (P := Tryd.prog) Tryd.underlying35 Tryd.underlying5 Tryd.underlying9 (Kd.V_drewN HO404.out n_)))))
 go_ret3
 exact ⟨_, by first | rfl | (simp [errW_none, errW_some] <;> rfl) | (simp [*, errW_none, errW_some] <;> rfl), by (with_reducible repeat (first | apply Kd.R_alloc | apply Kd.R_drewN | apply Kd.R_drew)); exact Kd.R_mono HO406.out (fun _ hk => trivial), by repeat (first | (with_reducible first | exact HB.out | apply below_alloc | apply pw_below_drewN | apply below_drew1) | exact HB.out)⟩
def cambiumref01_TakeBytes.f (k : Nat) (l0 : List Int) : Option (List Int × List Int × Int) := (cambiumref01_take.f k l0 2).bind fun bt407 => (some (bt407.1, bt407.2.1, bt407.2.2))
set_option maxHeartbeats 8000000 in
set_option maxRecDepth 100000 in
theorem cambiumref01_TakeBytes.calls (k : Nat) (A0 : Option Addr) (c0 : Nat) (l0 : List Int) (r1 : List Int) (r2 : List Int) (r3 : Int) (w : World) (hr0 : Kd.C (Kd.int .u8) w A0 l0.length l0) (hc0 : l0.length ≤ c0) (h : cambiumref01_TakeBytes.f k l0 = some (r1, r2, r3)) :
  Calls Tryd.prog 41 #[.slice A0 l0.length c0] w fun e w' => ∃ v0_ v1_ : Value, e = .returned (.tuple #[v0_, v1_, .int .i64 r3]) ∧ Kd.R (Kd.int .u8) 5 w' w.heap.size (fun k_ => some k_ ≠ (v1_ : Value).ownBlock) v0_ r1 ∧ Kd.R (Kd.int .u8) 5 w' w.heap.size (fun k_ => some k_ ≠ (v0_ : Value).ownBlock) v1_ r2 ∧ Below w.heap.size w w' := by
 have HR0 := Aside0.mk hr0
 have HC0 := Aside0.mk hc0
 clear hr0 hc0
 have HB := Aside0.mk (Below.refl w.heap.size w)
 have H : ((cambiumref01_take.f k l0 2).bind fun bt407 => (some (bt407.1, bt407.2.1, bt407.2.2))) = some (r1, r2, r3) := h
 clear h
 replace H := Option.bind_eq_some_iff.mp H
 obtain ⟨⟨t407, t408, t409⟩, A20, H⟩ := H
 replace H : (some (t407, t408, t409)) = some (r1, r2, r3) := H
 have A2 := Aside0.mk A20
 clear A20
 simp only [Option.some.injEq, Prod.mk.injEq] at H
 obtain ⟨rfl, rfl, rfl⟩ := H
 go_enter Tryd.func41, Tryd.ntmps41
 go_wp2_with (first | ((with_reducible refine gate_callee (f := 54) rfl ?_); refine goesL_ (some 6) rfl rfl Tryd.func54 q18_ rfl #[.slice A0 l0.length c0, .int .i64 2] rfl q1_ ?_; (with_reducible refine (cambiumref01_take.calls k _ _ l0 2 t407 t408 t409 _ ?side1 ?side2 A2.out).mono ?_); (case side1 => repeat (first | exact HR0.out | (with_reducible refine Kd.C_alloc ?_ _) | (with_reducible refine Kd.C_drewN ?_ _) | (with_reducible refine Kd.C_drew ?_))); (case side2 => exact HC0.out); rintro e w3 ⟨v410, v412, rfl, ho0, ho1, hb⟩; refine ⟨_, rfl, ?_⟩; have n0_ := Aside0.mk (Kd.R_lower ho0 (below_size q0_)); have n1_ := Aside0.mk (Kd.R_lower ho1 (below_size q0_)); have n2_ := Aside0.mk (below_step q0_ hb); clear HB; have HO411 := n0_; have HO413 := n1_; have HB := n2_; clear n0_ n1_ n2_; (try clear hb); (try clear hb2); (try clear hk); (try clear hi); (try clear ho0); (try clear ho1)))
 go_ret3
 exact ⟨_, _, by first | rfl | (simp [errW_none, errW_some] <;> rfl) | (simp [*, errW_none, errW_some] <;> rfl), by (with_reducible repeat (first | apply Kd.R_alloc | apply Kd.R_drewN | apply Kd.R_drew)); exact HO411.out, by (with_reducible repeat (first | apply Kd.R_alloc | apply Kd.R_drewN | apply Kd.R_drew)); exact HO413.out, by repeat (first | (with_reducible first | exact HB.out | apply below_alloc | apply pw_below_drewN | apply below_drew1) | exact HB.out)⟩
end Go.Proofs.YtgklipfeheohkaaDoor.P
