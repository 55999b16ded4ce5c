import Derived.Test.YtgklipfeheohkaaDoorPx0
import Derived.Test.YtgklipfeheohkaaDoorPx3
import Derived.Test.YtgklipfeheohkaaDoorPx11
import Derived.Test.YtgklipfeheohkaaDoorPx13
import Derived.Test.YtgklipfeheohkaaDoorPx14
namespace Go.Proofs.YtgklipfeheohkaaDoor.P
open Go.RowKit Go.Proofs.YtgklipfeheohkaaDoorW.PrintWords Go.Proofs.YtgklipfeheohkaaDoorW.PrintLast Go.Proofs.YtgklipfeheohkaaDoorW.PrintMore
attribute [local go_sem] max2_int min2_int max_two min_two max_three min_three max_four min_four   -- for this text's walks alone
set_option linter.unusedVariables false
set_option linter.unusedSimpArgs false
theorem q74_ {P : Prop} (h : P := by (with_reducible repeat (first | apply Kd.R_alloc | apply Kd.R_drewN | apply Kd.R_drew)); exact HO466.out) : P := h
theorem q75_ {P : Prop} (h : P := by (with_reducible repeat (first | apply Kd.R_alloc | apply Kd.R_drewN | apply Kd.R_drew)); exact HO483.out) : P := h
def cambiumlaw19_StreamTakes.f (k : Nat) (l0 : List Int) : Option (Bool) := (cambiumlaw19_shown.f k).bind fun t459 => (if (l0.length : Int) > 70000 then (if 70000 ≤ (l0.length : Int) then ((some (([] : List Int) : List Int)).bind fun y461 => (if y461.length + (l0.take 70000).length < 140737488355328 then ((stream_Take.f k (y461 ++ (l0.take 70000))).bind fun bt467 => ((cambiumref19_Take.f k (l0.take 70000)).bind fun bt472 => ((cambiumref19_Same.f bt467.1 bt472.1).bind fun t477 => (if t459 = true then (if t477 = true then (if (bt467.2.1 == bt472.2.1) = true then (some (bt467.2.2 == bt472.2.2)) else (some false)) else (some false)) else (some false))))) else (none))) else (none)) else ((some (([] : List Int) : List Int)).bind fun y478 => (if y478.length + l0.length < 140737488355328 then ((stream_Take.f k (y478 ++ l0)).bind fun bt484 => ((cambiumref19_Take.f k l0).bind fun bt489 => ((cambiumref19_Same.f bt484.1 bt489.1).bind fun t494 => (if t459 = true then (if t494 = true then (if (bt484.2.1 == bt489.2.1) = true then (some (bt484.2.2 == bt489.2.2)) else (some false)) else (some false)) else (some false))))) else (none))))
set_option maxHeartbeats 8000000 in
set_option maxRecDepth 100000 in
theorem cambiumlaw19_StreamTakes.calls (k : Nat) (A0 : Option Addr) (c0 : Nat) (l0 : List Int) (r : Bool) (w : World) (hr0 : Kd.C (Kd.int .u8) w A0 l0.length l0) (hc0 : l0.length ≤ c0) (hr_ : Aside0 (r = true)) (h : cambiumlaw19_StreamTakes.f k l0 = some r) :
  Calls Tryd.prog 6 #[.slice A0 l0.length c0] w fun e w' => e = .returned (.bool r) ∧ Below w.heap.size w w' := by
 have HR0 := Aside0.mk hr0
 have HC0 := Aside0.mk hc0
 clear hr0 hc0
 have HB := Aside0.mk (Below.refl w.heap.size w)
 have H : ((cambiumlaw19_shown.f k).bind fun t459 => (if (l0.length : Int) > 70000 then (if 70000 ≤ (l0.length : Int) then ((some (([] : List Int) : List Int)).bind fun y461 => (if y461.length + (l0.take 70000).length < 140737488355328 then ((stream_Take.f k (y461 ++ (l0.take 70000))).bind fun bt467 => ((cambiumref19_Take.f k (l0.take 70000)).bind fun bt472 => ((cambiumref19_Same.f bt467.1 bt472.1).bind fun t477 => (if t459 = true then (if t477 = true then (if (bt467.2.1 == bt472.2.1) = true then (some (bt467.2.2 == bt472.2.2)) else (some false)) else (some false)) else (some false))))) else (none))) else (none)) else ((some (([] : List Int) : List Int)).bind fun y478 => (if y478.length + l0.length < 140737488355328 then ((stream_Take.f k (y478 ++ l0)).bind fun bt484 => ((cambiumref19_Take.f k l0).bind fun bt489 => ((cambiumref19_Same.f bt484.1 bt489.1).bind fun t494 => (if t459 = true then (if t494 = true then (if (bt484.2.1 == bt489.2.1) = true then (some (bt484.2.2 == bt489.2.2)) else (some false)) else (some false)) else (some false))))) else (none))))) = some r := h
 clear h
 replace H := Option.bind_eq_some_iff.mp H
 obtain ⟨t459, A20, H⟩ := H
 replace H : (if (l0.length : Int) > 70000 then (if 70000 ≤ (l0.length : Int) then ((some (([] : List Int) : List Int)).bind fun y461 => (if y461.length + (l0.take 70000).length < 140737488355328 then ((stream_Take.f k (y461 ++ (l0.take 70000))).bind fun bt467 => ((cambiumref19_Take.f k (l0.take 70000)).bind fun bt472 => ((cambiumref19_Same.f bt467.1 bt472.1).bind fun t477 => (if t459 = true then (if t477 = true then (if (bt467.2.1 == bt472.2.1) = true then (some (bt467.2.2 == bt472.2.2)) else (some false)) else (some false)) else (some false))))) else (none))) else (none)) else ((some (([] : List Int) : List Int)).bind fun y478 => (if y478.length + l0.length < 140737488355328 then ((stream_Take.f k (y478 ++ l0)).bind fun bt484 => ((cambiumref19_Take.f k l0).bind fun bt489 => ((cambiumref19_Same.f bt484.1 bt489.1).bind fun t494 => (if t459 = true then (if t494 = true then (if (bt484.2.1 == bt489.2.1) = true then (some (bt484.2.2 == bt489.2.2)) else (some false)) else (some false)) else (some false))))) else (none)))) = some r := H
 have A2 := Aside0.mk A20
 clear A20
 by_cases c3 : (l0.length : Int) > 70000
 ·rw [if_pos c3] at H
  have c3b0 : decide (70000 < (l0.length : Int)) = true := decide_eq_true c3
  have c3b1 : decide (70000 < l0.length) = true := decide_eq_true (by omega)
  clear c3
  by_cases c4 : 70000 ≤ (l0.length : Int)
  ·rw [if_pos c4] at H
   have c4b0 := eq_true c4
   have c4b1 : decide (70000 ≤ (l0.length : Int)) = true := decide_eq_true c4
   clear c4
   obtain ⟨y461, hy461⟩ : ∃ y_ : List Int, y_ = (([] : List Int)) := ⟨_, rfl⟩
   replace H : (if y461.length + (l0.take 70000).length < 140737488355328 then ((stream_Take.f k (y461 ++ (l0.take 70000))).bind fun bt467 => ((cambiumref19_Take.f k (l0.take 70000)).bind fun bt472 => ((cambiumref19_Same.f bt467.1 bt472.1).bind fun t477 => (if t459 = true then (if t477 = true then (if (bt467.2.1 == bt472.2.1) = true then (some (bt467.2.2 == bt472.2.2)) else (some false)) else (some false)) else (some false))))) else (none)) = some r := by first | (rw [hy461]; with_reducible exact H) | (have H2_ := (Option.bind_some _ _).symm.trans H; rw [hy461]; with_reducible exact H2_) | (have H2_ := (Option.bind_some _ _).symm.trans H; with_reducible exact H2_) | with_reducible exact H | (rw [hy461]; exact H) | exact H
   have Ny461 := Aside0.mk hy461
   clear hy461
   by_cases c5 : y461.length + (l0.take 70000).length < 140737488355328
   ·rw [if_pos c5] at H
    have LMc5 := Aside0.mk c5
    clear c5
    obtain ⟨y464, hy464⟩ : ∃ y_ : List Int, y_ = (y461 ++ (l0.take 70000)) := ⟨_, rfl⟩
    replace H : ((stream_Take.f k y464).bind fun bt467 => ((cambiumref19_Take.f k (l0.take 70000)).bind fun bt472 => ((cambiumref19_Same.f bt467.1 bt472.1).bind fun t477 => (if t459 = true then (if t477 = true then (if (bt467.2.1 == bt472.2.1) = true then (some (bt467.2.2 == bt472.2.2)) else (some false)) else (some false)) else (some false))))) = some r := by first | (rw [hy464]; with_reducible exact H) | (have H2_ := (Option.bind_some _ _).symm.trans H; rw [hy464]; with_reducible exact H2_) | (have H2_ := (Option.bind_some _ _).symm.trans H; with_reducible exact H2_) | with_reducible exact H | (rw [hy464]; exact H) | exact H
    have Ny464 := Aside0.mk hy464
    clear hy464
    replace H := Option.bind_eq_some_iff.mp H
    obtain ⟨⟨t467, t470, t471⟩, A60, H⟩ := H
    replace H : ((cambiumref19_Take.f k (l0.take 70000)).bind fun bt472 => ((cambiumref19_Same.f t467 bt472.1).bind fun t477 => (if t459 = true then (if t477 = true then (if (t470 == bt472.2.1) = true then (some (t471 == bt472.2.2)) else (some false)) else (some false)) else (some false)))) = some r := H
    have A6 := Aside0.mk A60
    clear A60
    replace H := Option.bind_eq_some_iff.mp H
    obtain ⟨⟨t472, t475, t476⟩, A70, H⟩ := H
    replace H : ((cambiumref19_Same.f t467 t472).bind fun t477 => (if t459 = true then (if t477 = true then (if (t470 == t475) = true then (some (t471 == t476)) else (some false)) else (some false)) else (some false))) = some r := H
    have A7 := Aside0.mk A70
    clear A70
    replace H := Option.bind_eq_some_iff.mp H
    obtain ⟨t477, A80, H⟩ := H
    replace H : (if t459 = true then (if t477 = true then (if (t470 == t475) = true then (some (t471 == t476)) else (some false)) else (some false)) else (some false)) = some r := H
    have A8 := Aside0.mk A80
    clear A80
    by_cases c9 : t459 = true
    ·subst c9
     have H1 : (if t477 = true then (if (t470 == t475) = true then (some (t471 == t476)) else (some false)) else (some false)) = some r := by rw [if_pos rfl] at H; exact H
     clear H
     have H := H1
     clear H1
     by_cases c10 : t477 = true
     ·subst c10
      have H1 : (if (t470 == t475) = true then (some (t471 == t476)) else (some false)) = some r := by rw [if_pos rfl] at H; exact H
      clear H
      have H := H1
      clear H1
      by_cases c11 : (t470 == t475) = true
      ·rw [if_pos c11] at H
       have c11b0 : (t470 == t475) = true := c11
       (try (have c11b1 : decide (t470 = t475) = true := by simpa using c11))
       (try (have c11b2 : (t470 == t475) = true := by simpa using c11))
       clear c11
       obtain rfl := Option.some.inj H
       go_enter Tryd.func6, Tryd.ntmps6
       go_wp2_with (first | ((with_reducible refine gate_callee (f := 9) rfl ?_); refine goesL_ (some 11) rfl rfl Tryd.func9 q18_ rfl #[] rfl q1_ ?_; (with_reducible refine (cambiumlaw19_shown.calls k  true _ A2.out).mono ?_); rintro e w12 ⟨rfl, hb⟩; refine ⟨_, rfl, ?_⟩; have n0_ := Aside0.mk (below_step q0_ hb); clear HB; have HB := n0_; clear n0_; (try clear hb); (try clear hb2); (try clear hk); (try clear hi); obtain ⟨i013, hi013, _, hsz13, _⟩ := info_parts info5; obtain ⟨hcut13, hA13, hC13⟩ := print_take_of (P := Tryd.prog) (Value.int .u8) 0 35 5 .i64 Tryd.underlying35 hi013 hsz13 A0 c0 l0 70000 (by omega) (of_decide_eq_true q7_) HC0.out; have HR460 := Aside0.mk (Kd.C_of_reads (h1 := fun _ => rfl) (hA13 _ (Kd.reads_of_C HR0.out))); have HC460 := Aside0.mk hC13; clear hA13 hC13 hi013 hsz13) | ((with_reducible refine gate_dst (N := 18) rfl ?_); refine Kd.R_lit (Kd.int .u8) _ 5 ?hg (N := 18) ?hd (xs := ([] : List Int)) (inner := []) (ok := fun _ => True) (okp := fun _ => True) ?hr ?hp (fun _ hk => hk) trivial (Below.refl _ _) (Nat.le_refl _) (by simp) ?_; (case hd => rfl); (case hg => rfl); (case hr => first | (go_simp; done) | (go_simp; rfl)); (case hp => exact (Reps.none _ _)); intro v462 w14 ho15 hb hg_ hnew_; clear hg_ hnew_; (first | rw [← Ny461.out] at ho15 | (simp only [Int.reduceToNat] at ho15; rw [← Ny461.out] at ho15)); have n0_ := Aside0.mk (Kd.R_lower ho15 (below_size q0_)); have n1_ := Aside0.mk (below_step q0_ hb); clear HB; have HO463 := n0_; have HB := n1_; clear n0_ n1_; clear hb ho15) | ((with_reducible refine gate_builtin (b := .append) (xs := #[.tmp 18, .tmp 19]) rfl ?_); at_builtin; refine Kd.R_append_rows (Kd.int .u8) (w0 := w) w.heap.size rfl (.tmp 18) (.tmp 19) 35 5 (.int .u8 0) 1 rfl Tryd.underlying35 info5 rfl q81_ (by omega) v462 y461 (l0.take 70000) _ _ _ (fun _ => True) (fun _ => False) rfl rfl ?aO ?aR (fun _ _ h => h) (fun _ h => h.elim) ?aF ?aB ?aS ?aL ?_; (case aR => first | (rw [← List.length_take]; repeat (first | exact (Kd.C_below HR460.out HB.out) | (with_reducible refine Kd.C_alloc ?_ _) | (with_reducible refine Kd.C_drewN ?_ _) | (with_reducible refine Kd.C_drew ?_))) | (rw [← show (l0.take 70000).length = 70000 from (by rw [List.length_take]; have h_ : (70000 : Int) ≤ (l0.length : Int) := of_decide_eq_true q7_; omega)]; repeat (first | exact (Kd.C_below HR460.out HB.out) | (with_reducible refine Kd.C_alloc ?_ _) | (with_reducible refine Kd.C_drewN ?_ _) | (with_reducible refine Kd.C_drew ?_))) | (repeat (first | exact (Kd.C_below HR460.out HB.out) | (with_reducible refine Kd.C_alloc ?_ _) | (with_reducible refine Kd.C_drewN ?_ _) | (with_reducible refine Kd.C_drew ?_)))); (case aB => exact q0_); (case aF => exact (fun _ _ => trivial)); (case aO => exact (by (with_reducible repeat (first | apply Kd.R_alloc | apply Kd.R_drewN | apply Kd.R_drew)); exact HO463.out)); (case aS => exact (below_size q0_)); (case aL => have := LMc5.out; have hlx_ := (show (l0.take 70000).length = 70000 from (by rw [List.length_take]; have h_ : (70000 : Int) ≤ (l0.length : Int) := of_decide_eq_true q7_; omega)); omega); intro v465 w16 ho hb hg hat; rw [← Ny464.out] at ho; have n0_ := Aside0.mk (hb); have n1_ := Aside0.mk (ho); clear HB; clear HO463; have HB := n0_; have HO466 := n1_; clear n0_ n1_; clear ho hb hg hat; obtain ⟨Ao17, co17, eo17⟩ := Kd.R_slice HO466.out; subst eo17) | ((with_reducible refine gate_callee (f := 21) rfl ?_); refine goesL_ (some 21) rfl rfl Tryd.func21 q18_ rfl #[.slice Ao17 y464.length co17] rfl q1_ ?_; (with_reducible refine (stream_Take.calls k _ _ y464 t467 t470 t471 _ ?side1 ?side2 A6.out).mono ?_); (case side1 => repeat (first | exact (Kd.R_reads' HO466.out).2.2 | (with_reducible refine Kd.C_alloc ?_ _) | (with_reducible refine Kd.C_drewN ?_ _) | (with_reducible refine Kd.C_drew ?_))); (case side2 => exact (Kd.R_reads' HO466.out).2.1); rintro e w18 ⟨v468, rfl, ho0, hb⟩; refine ⟨_, rfl, ?_⟩; have n0_ := Aside0.mk (Kd.R_below q74_ hb); have n1_ := Aside0.mk (Kd.V_lower (Kd.V_mono (ok' := fun k_ => some k_ ≠ (.slice Ao17 y464.length co17 : Value).ownBlock) ho0 (fun k_ hk_ => (Kd.fresh' (Kd.R_lt q74_) k_ hk_))) (below_size q0_)); have n2_ := Aside0.mk (below_step q0_ hb); clear HO466; clear HB; have HO466 := n0_; have HO469 := n1_; have HB := n2_; clear n0_ n1_ n2_; (try clear hb); (try clear hb2); (try clear hk); (try clear hi); (try clear ho0)) | ((with_reducible refine gate_callee (f := 22) rfl ?_); refine goesL_ (some 27) rfl rfl Tryd.func22 q18_ rfl #[.slice A0 (l0.take 70000).length c0] rfl (by (try simp only [List.map_toArray, List.map_cons, List.map_nil]); first | done | (rw [show (l0.take 70000).length = 70000 from (by rw [List.length_take]; have h_ : (70000 : Int) ≤ (l0.length : Int) := of_decide_eq_true q7_; omega)] <;> rfl) | rfl | (simp only [List.length_drop, List.length_take]; rfl)) ?_; (with_reducible refine (cambiumref19_Take.calls k (fun k_ => k_ < w.heap.size) _ _ (l0.take 70000) t472 t475 t476 _ ?side1 A7.out).mono ?_); (case side1 => exact Kd.V_mk HC460.out (Kd.F_below (Kd.C_F (Kd.heap_int .u8) HR460.out) q0_)); rintro e w19 ⟨v473, rfl, ho0, hb⟩; refine ⟨_, rfl, ?_⟩; have n0_ := Aside0.mk (Kd.R_below q74_ hb); have n1_ := Aside0.mk (Kd.V_elder' (by (with_reducible repeat (first | apply Kd.V_alloc | apply Kd.V_drewN | apply Kd.V_drew)); exact HO469.out) (Kd.S_base ho0) hb); have n2_ := Aside0.mk (Kd.S_lower (Kd.S_new' (Kd.S_mono (ok' := fun k_ => True) ho0 (fun _ hk_ => trivial)) (Kd.R_lt q74_)) (below_size q0_)); have n3_ := Aside0.mk (below_step q0_ hb); clear HO466; clear HO469; clear HB; have HO466 := n0_; have HO469 := n1_; have HO474 := n2_; have HB := n3_; clear n0_ n1_ n2_ n3_; (try clear hb); (try clear hb2); (try clear hk); (try clear hi); (try clear ho0); obtain ⟨Ao20, co20, eo20⟩ := Kd.V_slice HO469.out; subst eo20; obtain ⟨Ao21, co21, eo21⟩ := Kd.S_slice HO474.out; subst eo21) | ((with_reducible refine gate_callee (f := 23) rfl ?_); refine goesL_ (some 33) rfl rfl Tryd.func23 q18_ rfl #[.slice Ao20 t467.length co20, .slice Ao21 t472.length co21] rfl q1_ ?_; (with_reducible refine (cambiumref19_Same.calls _ _ t467 _ _ t472 true _ ?side1 ?side2 ?side3 ?side4 A8.out).mono ?_); (case side1 => repeat (first | exact (Kd.V_reads' HO469.out).2.2 | (with_reducible refine Kd.C_alloc ?_ _) | (with_reducible refine Kd.C_drewN ?_ _) | (with_reducible refine Kd.C_drew ?_))); (case side2 => exact (Kd.V_reads' HO469.out).2.1); (case side3 => repeat (first | exact (Kd.S_reads' HO474.out).2.2 | (with_reducible refine Kd.C_alloc ?_ _) | (with_reducible refine Kd.C_drewN ?_ _) | (with_reducible refine Kd.C_drew ?_))); (case side4 => exact (Kd.S_reads' HO474.out).2.1); rintro e w22 ⟨rfl, hb⟩; refine ⟨_, rfl, ?_⟩; have n0_ := Aside0.mk (Kd.R_below q74_ hb); have n1_ := Aside0.mk (Kd.V_below (by (with_reducible repeat (first | apply Kd.V_alloc | apply Kd.V_drewN | apply Kd.V_drew)); exact HO469.out) hb); have n2_ := Aside0.mk (Kd.S_below (by (with_reducible repeat (first | apply Kd.S_alloc | apply Kd.S_drewN | apply Kd.S_drew)); exact HO474.out) hb); have n3_ := Aside0.mk (below_step q0_ hb); clear HO466; clear HO469; clear HO474; clear HB; have HO466 := n0_; have HO469 := n1_; have HO474 := n2_; have HB := n3_; clear n0_ n1_ n2_ n3_; (try clear hb); (try clear hb2); (try clear hk); (try clear hi)))
       go_ret
       exact ⟨q9_, by repeat (first | (with_reducible first | exact HB.out | apply below_alloc | apply pw_below_drewN | apply below_drew1) | exact HB.out)⟩
      ·rw [if_neg c11] at H
       have c11b0 : (t470 == t475) = false := by simpa using c11
       (try (have c11b1 : decide (t470 = t475) = false := by simpa using c11))
       (try (have c11b2 : (t470 == t475) = false := by simpa using c11))
       (try (have c11b3 : ¬ (t470 = t475) := by simpa using c11))
       clear c11
       exact absurd (Option.some.inj H) (by rw [hr_.out]; decide)
     ·replace c10 := Bool.eq_false_iff.mpr c10
      subst c10
      have H1 : (some false) = some r := by rw [if_neg (show ¬ (false = true) by decide)] at H; exact H
      clear H
      have H := H1
      clear H1
      exact absurd (Option.some.inj H) (by rw [hr_.out]; decide)
    ·replace c9 := Bool.eq_false_iff.mpr c9
     subst c9
     have H1 : (some false) = some r := by rw [if_neg (show ¬ (false = true) by decide)] at H; exact H
     clear H
     have H := H1
     clear H1
     exact absurd (Option.some.inj H) (by rw [hr_.out]; decide)
   ·rw [if_neg c5] at H
    exact absurd H (by simp)
  ·rw [if_neg c4] at H
   exact absurd H (by simp)
 ·rw [if_neg c3] at H
  have c3b0 : decide (70000 < (l0.length : Int)) = false := decide_eq_false c3
  have c3b1 : decide (70000 < l0.length) = false := decide_eq_false (by omega)
  clear c3
  obtain ⟨y478, hy478⟩ : ∃ y_ : List Int, y_ = (([] : List Int)) := ⟨_, rfl⟩
  replace H : (if y478.length + l0.length < 140737488355328 then ((stream_Take.f k (y478 ++ l0)).bind fun bt484 => ((cambiumref19_Take.f k l0).bind fun bt489 => ((cambiumref19_Same.f bt484.1 bt489.1).bind fun t494 => (if t459 = true then (if t494 = true then (if (bt484.2.1 == bt489.2.1) = true then (some (bt484.2.2 == bt489.2.2)) else (some false)) else (some false)) else (some false))))) else (none)) = some r := by first | (rw [hy478]; with_reducible exact H) | (have H2_ := (Option.bind_some _ _).symm.trans H; rw [hy478]; with_reducible exact H2_) | (have H2_ := (Option.bind_some _ _).symm.trans H; with_reducible exact H2_) | with_reducible exact H | (rw [hy478]; exact H) | exact H
  have Ny478 := Aside0.mk hy478
  clear hy478
  by_cases c23 : y478.length + l0.length < 140737488355328
  ·rw [if_pos c23] at H
   have LMc23 := Aside0.mk c23
   clear c23
   obtain ⟨y481, hy481⟩ : ∃ y_ : List Int, y_ = (y478 ++ l0) := ⟨_, rfl⟩
   replace H : ((stream_Take.f k y481).bind fun bt484 => ((cambiumref19_Take.f k l0).bind fun bt489 => ((cambiumref19_Same.f bt484.1 bt489.1).bind fun t494 => (if t459 = true then (if t494 = true then (if (bt484.2.1 == bt489.2.1) = true then (some (bt484.2.2 == bt489.2.2)) else (some false)) else (some false)) else (some false))))) = some r := by first | (rw [hy481]; with_reducible exact H) | (have H2_ := (Option.bind_some _ _).symm.trans H; rw [hy481]; with_reducible exact H2_) | (have H2_ := (Option.bind_some _ _).symm.trans H; with_reducible exact H2_) | with_reducible exact H | (rw [hy481]; exact H) | exact H
   have Ny481 := Aside0.mk hy481
   clear hy481
   replace H := Option.bind_eq_some_iff.mp H
   obtain ⟨⟨t484, t487, t488⟩, A240, H⟩ := H
   replace H : ((cambiumref19_Take.f k l0).bind fun bt489 => ((cambiumref19_Same.f t484 bt489.1).bind fun t494 => (if t459 = true then (if t494 = true then (if (t487 == bt489.2.1) = true then (some (t488 == bt489.2.2)) else (some false)) else (some false)) else (some false)))) = some r := H
   have A24 := Aside0.mk A240
   clear A240
   replace H := Option.bind_eq_some_iff.mp H
   obtain ⟨⟨t489, t492, t493⟩, A250, H⟩ := H
   replace H : ((cambiumref19_Same.f t484 t489).bind fun t494 => (if t459 = true then (if t494 = true then (if (t487 == t492) = true then (some (t488 == t493)) else (some false)) else (some false)) else (some false))) = some r := H
   have A25 := Aside0.mk A250
   clear A250
   replace H := Option.bind_eq_some_iff.mp H
   obtain ⟨t494, A260, H⟩ := H
   replace H : (if t459 = true then (if t494 = true then (if (t487 == t492) = true then (some (t488 == t493)) else (some false)) else (some false)) else (some false)) = some r := H
   have A26 := Aside0.mk A260
   clear A260
   by_cases c27 : t459 = true
   ·subst c27
    have H1 : (if t494 = true then (if (t487 == t492) = true then (some (t488 == t493)) else (some false)) else (some false)) = some r := by rw [if_pos rfl] at H; exact H
    clear H
    have H := H1
    clear H1
    by_cases c28 : t494 = true
    ·subst c28
     have H1 : (if (t487 == t492) = true then (some (t488 == t493)) else (some false)) = some r := by rw [if_pos rfl] at H; exact H
     clear H
     have H := H1
     clear H1
     by_cases c29 : (t487 == t492) = true
     ·rw [if_pos c29] at H
      have c29b0 : (t487 == t492) = true := c29
      (try (have c29b1 : decide (t487 = t492) = true := by simpa using c29))
      (try (have c29b2 : (t487 == t492) = true := by simpa using c29))
      clear c29
      obtain rfl := Option.some.inj H
      go_enter Tryd.func6, Tryd.ntmps6
      go_wp2_with (first | ((with_reducible refine gate_callee (f := 9) rfl ?_); refine goesL_ (some 11) rfl rfl Tryd.func9 q18_ rfl #[] rfl q1_ ?_; (with_reducible refine (cambiumlaw19_shown.calls k  true _ A2.out).mono ?_); rintro e w30 ⟨rfl, hb⟩; refine ⟨_, rfl, ?_⟩; have n0_ := Aside0.mk (below_step q0_ hb); clear HB; have HB := n0_; clear n0_; (try clear hb); (try clear hb2); (try clear hk); (try clear hi)) | ((with_reducible refine gate_dst (N := 18) rfl ?_); refine Kd.R_lit (Kd.int .u8) _ 5 ?hg (N := 18) ?hd (xs := ([] : List Int)) (inner := []) (ok := fun _ => True) (okp := fun _ => True) ?hr ?hp (fun _ hk => hk) trivial (Below.refl _ _) (Nat.le_refl _) (by simp) ?_; (case hd => rfl); (case hg => rfl); (case hr => first | (go_simp; done) | (go_simp; rfl)); (case hp => exact (Reps.none _ _)); intro v479 w31 ho32 hb hg_ hnew_; clear hg_ hnew_; (first | rw [← Ny478.out] at ho32 | (simp only [Int.reduceToNat] at ho32; rw [← Ny478.out] at ho32)); have n0_ := Aside0.mk (Kd.R_lower ho32 (below_size q0_)); have n1_ := Aside0.mk (below_step q0_ hb); clear HB; have HO480 := n0_; have HB := n1_; clear n0_ n1_; clear hb ho32) | ((with_reducible refine gate_builtin (b := .append) (xs := #[.tmp 18, .tmp 19]) rfl ?_); at_builtin; refine Kd.R_append_rows (Kd.int .u8) (w0 := w) w.heap.size rfl (.tmp 18) (.tmp 19) 35 5 (.int .u8 0) 1 rfl Tryd.underlying35 info5 rfl q81_ (by omega) v479 y478 l0 _ _ _ (fun _ => True) (fun _ => False) rfl rfl ?aO ?aR (fun _ _ h => h) (fun _ h => h.elim) ?aF ?aB ?aS ?aL ?_; (case aR => repeat (first | exact (Kd.C_below HR0.out HB.out) | (with_reducible refine Kd.C_alloc ?_ _) | (with_reducible refine Kd.C_drewN ?_ _) | (with_reducible refine Kd.C_drew ?_))); (case aB => exact q0_); (case aF => exact (fun _ _ => trivial)); (case aO => exact (by (with_reducible repeat (first | apply Kd.R_alloc | apply Kd.R_drewN | apply Kd.R_drew)); exact HO480.out)); (case aS => exact (below_size q0_)); (case aL => have := LMc23.out; omega); intro v482 w33 ho hb hg hat; rw [← Ny481.out] at ho; have n0_ := Aside0.mk (hb); have n1_ := Aside0.mk (ho); clear HB; clear HO480; have HB := n0_; have HO483 := n1_; clear n0_ n1_; clear ho hb hg hat; obtain ⟨Ao34, co34, eo34⟩ := Kd.R_slice HO483.out; subst eo34) | ((with_reducible refine gate_callee (f := 21) rfl ?_); refine goesL_ (some 21) rfl rfl Tryd.func21 q18_ rfl #[.slice Ao34 y481.length co34] rfl q1_ ?_; (with_reducible refine (stream_Take.calls k _ _ y481 t484 t487 t488 _ ?side1 ?side2 A24.out).mono ?_); (case side1 => repeat (first | exact (Kd.R_reads' HO483.out).2.2 | (with_reducible refine Kd.C_alloc ?_ _) | (with_reducible refine Kd.C_drewN ?_ _) | (with_reducible refine Kd.C_drew ?_))); (case side2 => exact (Kd.R_reads' HO483.out).2.1); rintro e w35 ⟨v485, rfl, ho0, hb⟩; refine ⟨_, rfl, ?_⟩; have n0_ := Aside0.mk (Kd.R_below q75_ hb); have n1_ := Aside0.mk (Kd.V_lower (Kd.V_mono (ok' := fun k_ => some k_ ≠ (.slice Ao34 y481.length co34 : Value).ownBlock) ho0 (fun k_ hk_ => (Kd.fresh' (Kd.R_lt q75_) k_ hk_))) (below_size q0_)); have n2_ := Aside0.mk (below_step q0_ hb); clear HO483; clear HB; have HO483 := n0_; have HO486 := n1_; have HB := n2_; clear n0_ n1_ n2_; (try clear hb); (try clear hb2); (try clear hk); (try clear hi); (try clear ho0)) | ((with_reducible refine gate_callee (f := 22) rfl ?_); refine goesL_ (some 27) rfl rfl Tryd.func22 q18_ rfl #[.slice A0 l0.length c0] rfl q1_ ?_; (with_reducible refine (cambiumref19_Take.calls k (fun k_ => k_ < w.heap.size) _ _ l0 t489 t492 t493 _ ?side1 A25.out).mono ?_); (case side1 => exact Kd.V_mk HC0.out (Kd.F_below (Kd.C_F (Kd.heap_int .u8) HR0.out) q0_)); rintro e w36 ⟨v490, rfl, ho0, hb⟩; refine ⟨_, rfl, ?_⟩; have n0_ := Aside0.mk (Kd.R_below q75_ hb); have n1_ := Aside0.mk (Kd.V_elder' (by (with_reducible repeat (first | apply Kd.V_alloc | apply Kd.V_drewN | apply Kd.V_drew)); exact HO486.out) (Kd.S_base ho0) hb); have n2_ := Aside0.mk (Kd.S_lower (Kd.S_new' (Kd.S_mono (ok' := fun k_ => True) ho0 (fun _ hk_ => trivial)) (Kd.R_lt q75_)) (below_size q0_)); have n3_ := Aside0.mk (below_step q0_ hb); clear HO483; clear HO486; clear HB; have HO483 := n0_; have HO486 := n1_; have HO491 := n2_; have HB := n3_; clear n0_ n1_ n2_ n3_; (try clear hb); (try clear hb2); (try clear hk); (try clear hi); (try clear ho0); obtain ⟨Ao37, co37, eo37⟩ := Kd.V_slice HO486.out; subst eo37; obtain ⟨Ao38, co38, eo38⟩ := Kd.S_slice HO491.out; subst eo38) | ((with_reducible refine gate_callee (f := 23) rfl ?_); refine goesL_ (some 33) rfl rfl Tryd.func23 q18_ rfl #[.slice Ao37 t484.length co37, .slice Ao38 t489.length co38] rfl q1_ ?_; (with_reducible refine (cambiumref19_Same.calls _ _ t484 _ _ t489 true _ ?side1 ?side2 ?side3 ?side4 A26.out).mono ?_); (case side1 => repeat (first | exact (Kd.V_reads' HO486.out).2.2 | (with_reducible refine Kd.C_alloc ?_ _) | (with_reducible refine Kd.C_drewN ?_ _) | (with_reducible refine Kd.C_drew ?_))); (case side2 => exact (Kd.V_reads' HO486.out).2.1); (case side3 => repeat (first | exact (Kd.S_reads' HO491.out).2.2 | (with_reducible refine Kd.C_alloc ?_ _) | (with_reducible refine Kd.C_drewN ?_ _) | (with_reducible refine Kd.C_drew ?_))); (case side4 => exact (Kd.S_reads' HO491.out).2.1); rintro e w39 ⟨rfl, hb⟩; refine ⟨_, rfl, ?_⟩; have n0_ := Aside0.mk (Kd.R_below q75_ hb); have n1_ := Aside0.mk (Kd.V_below (by (with_reducible repeat (first | apply Kd.V_alloc | apply Kd.V_drewN | apply Kd.V_drew)); exact HO486.out) hb); have n2_ := Aside0.mk (Kd.S_below (by (with_reducible repeat (first | apply Kd.S_alloc | apply Kd.S_drewN | apply Kd.S_drew)); exact HO491.out) hb); have n3_ := Aside0.mk (below_step q0_ hb); clear HO483; clear HO486; clear HO491; clear HB; have HO483 := n0_; have HO486 := n1_; have HO491 := n2_; have HB := n3_; clear n0_ n1_ n2_ n3_; (try clear hb); (try clear hb2); (try clear hk); (try clear hi)))
      go_ret
      exact ⟨q9_, by repeat (first | (with_reducible first | exact HB.out | apply below_alloc | apply pw_below_drewN | apply below_drew1) | exact HB.out)⟩
     ·rw [if_neg c29] at H
      have c29b0 : (t487 == t492) = false := by simpa using c29
      (try (have c29b1 : decide (t487 = t492) = false := by simpa using c29))
      (try (have c29b2 : (t487 == t492) = false := by simpa using c29))
      (try (have c29b3 : ¬ (t487 = t492) := by simpa using c29))
      clear c29
      exact absurd (Option.some.inj H) (by rw [hr_.out]; decide)
    ·replace c28 := Bool.eq_false_iff.mpr c28
     subst c28
     have H1 : (some false) = some r := by rw [if_neg (show ¬ (false = true) by decide)] at H; exact H
     clear H
     have H := H1
     clear H1
     exact absurd (Option.some.inj H) (by rw [hr_.out]; decide)
   ·replace c27 := Bool.eq_false_iff.mpr c27
    subst c27
    have H1 : (some false) = some r := by rw [if_neg (show ¬ (false = true) by decide)] at H; exact H
    clear H
    have H := H1
    clear H1
    exact absurd (Option.some.inj H) (by rw [hr_.out]; decide)
  ·rw [if_neg c23] at H
   exact absurd H (by simp)
end Go.Proofs.YtgklipfeheohkaaDoor.P
