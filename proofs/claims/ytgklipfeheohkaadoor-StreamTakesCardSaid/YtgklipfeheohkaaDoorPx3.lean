import Derived.Test.YtgklipfeheohkaaDoorPx0
import Derived.Test.YtgklipfeheohkaaDoorPx2
namespace Go.Proofs.YtgklipfeheohkaaDoor.P
open Go.RowKit Go.Proofs.YtgklipfeheohkaaDoorW.PrintWords Go.Proofs.YtgklipfeheohkaaDoorW.PrintLast Go.Proofs.YtgklipfeheohkaaDoorW.PrintMore
attribute [local go_sem] max2_int min2_int max_two min_two max_three min_three max_four min_four   -- for this text's walks alone
set_option linter.unusedVariables false
set_option linter.unusedSimpArgs false
theorem q15_ {P : Prop} (h : P := by (with_reducible repeat (first | apply Kd.R_alloc | apply Kd.R_drewN | apply Kd.R_drew)); exact HO182.out) : P := h
theorem q20_ {P : Prop} (h : P := by (with_reducible repeat (first | apply Kd.R_alloc | apply Kd.R_drewN | apply Kd.R_drew)); exact HO178.out) : P := h
theorem q28_ {P : Prop} (h : P := by (with_reducible repeat (first | apply Kd.R_alloc | apply Kd.R_drewN | apply Kd.R_drew)); exact HO186.out) : P := h
theorem q37_ {P : Prop} (h : P := by repeat (first | (with_reducible exact HR194.out) | (with_reducible refine Kd.C_alloc ?_ _) | (with_reducible refine Kd.C_drewN ?_ _) | (with_reducible refine Kd.C_drew ?_) | exact HR194.out)) : P := h
def cambiumlaw19_shown.f (k : Nat)  : Option (Bool) := (stream_Put.f k ([] : List (S37)) false).bind fun bt175 => ((stream_Cut.f (⟨#[97, 47, 98]⟩ : ByteArray)).bind fun bt179 => ((stream_Cut.f (⟨#[]⟩ : ByteArray)).bind fun bt183 => ((stream_Cut.f (⟨#[47, 97]⟩ : ByteArray)).bind fun bt187 => (if (bt175.1.length : Int) = 8 then (if 4 ≤ (bt175.1.length : Int) then (if (strOfNums (bt175.1.take 4)).toList = ([67, 66, 0, 8] : List UInt8) then (if bt175.2 = 0 then (if (bt179.1.length : Int) = 2 then (if 0 < (bt179.1.length : Int) then (if (rdOf ByteArray.empty bt179.1 0).toList = ([97] : List UInt8) then (if 1 < (bt179.1.length : Int) then (if (rdOf ByteArray.empty bt179.1 1).toList = ([98] : List UInt8) then (if bt179.2 = 0 then (if bt183.2 = 12 then (some (bt187.2 == 12)) else (some false)) else (some false)) else (some false)) else (none)) else (some false)) else (none)) else (some false)) else (some false)) else (some false)) else (none)) else (some false)))))
theorem cambiumlaw19_shown.mono : ∀ k, LeO (cambiumlaw19_shown.f k ) (cambiumlaw19_shown.f (k + 1) ) := by
 intro  k
 unfold cambiumlaw19_shown.f
 repeat' first
   | (with_reducible exact stream_Put.mono _ _ _)
   | (with_reducible exact LeO.refl _)
   | (with_reducible exact LeO.none _)
   | (with_reducible refine LeO.ite ?_ ?_)
   | (with_reducible refine LeO.bind ?_ (fun _ => ?_))
   | exact stream_Put.mono _ _ _
   | exact LeO.none _
   | refine LeO.ite ?_ ?_
   | refine LeO.bind ?_ (fun _ => ?_)
set_option maxHeartbeats 8000000 in
set_option maxRecDepth 100000 in
theorem cambiumlaw19_shown.calls (k : Nat)  (r : Bool) (w : World) (h : cambiumlaw19_shown.f k  = some r) :
  Calls Tryd.prog 9 #[] w fun e w' => e = .returned (.bool r) ∧ Below w.heap.size w w' := by
 have HB := Aside0.mk (Below.refl w.heap.size w)
 have H : ((stream_Put.f k ([] : List (S37)) false).bind fun bt175 => ((stream_Cut.f (⟨#[97, 47, 98]⟩ : ByteArray)).bind fun bt179 => ((stream_Cut.f (⟨#[]⟩ : ByteArray)).bind fun bt183 => ((stream_Cut.f (⟨#[47, 97]⟩ : ByteArray)).bind fun bt187 => (if (bt175.1.length : Int) = 8 then (if 4 ≤ (bt175.1.length : Int) then (if (strOfNums (bt175.1.take 4)).toList = ([67, 66, 0, 8] : List UInt8) then (if bt175.2 = 0 then (if (bt179.1.length : Int) = 2 then (if 0 < (bt179.1.length : Int) then (if (rdOf ByteArray.empty bt179.1 0).toList = ([97] : List UInt8) then (if 1 < (bt179.1.length : Int) then (if (rdOf ByteArray.empty bt179.1 1).toList = ([98] : List UInt8) then (if bt179.2 = 0 then (if bt183.2 = 12 then (some (bt187.2 == 12)) else (some false)) else (some false)) else (some false)) else (none)) else (some false)) else (none)) else (some false)) else (some false)) else (some false)) else (none)) else (some false)))))) = some r := h
 clear h
 replace H := Option.bind_eq_some_iff.mp H
 obtain ⟨⟨t175, t176⟩, A10, H⟩ := H
 replace H : ((stream_Cut.f (⟨#[97, 47, 98]⟩ : ByteArray)).bind fun bt179 => ((stream_Cut.f (⟨#[]⟩ : ByteArray)).bind fun bt183 => ((stream_Cut.f (⟨#[47, 97]⟩ : ByteArray)).bind fun bt187 => (if (t175.length : Int) = 8 then (if 4 ≤ (t175.length : Int) then (if (strOfNums (t175.take 4)).toList = ([67, 66, 0, 8] : List UInt8) then (if t176 = 0 then (if (bt179.1.length : Int) = 2 then (if 0 < (bt179.1.length : Int) then (if (rdOf ByteArray.empty bt179.1 0).toList = ([97] : List UInt8) then (if 1 < (bt179.1.length : Int) then (if (rdOf ByteArray.empty bt179.1 1).toList = ([98] : List UInt8) then (if bt179.2 = 0 then (if bt183.2 = 12 then (some (bt187.2 == 12)) else (some false)) else (some false)) else (some false)) else (none)) else (some false)) else (none)) else (some false)) else (some false)) else (some false)) else (none)) else (some false))))) = some r := H
 have A1 := Aside0.mk A10
 clear A10
 replace H := Option.bind_eq_some_iff.mp H
 obtain ⟨⟨t179, t180⟩, A20, H⟩ := H
 replace H : ((stream_Cut.f (⟨#[]⟩ : ByteArray)).bind fun bt183 => ((stream_Cut.f (⟨#[47, 97]⟩ : ByteArray)).bind fun bt187 => (if (t175.length : Int) = 8 then (if 4 ≤ (t175.length : Int) then (if (strOfNums (t175.take 4)).toList = ([67, 66, 0, 8] : List UInt8) then (if t176 = 0 then (if (t179.length : Int) = 2 then (if 0 < (t179.length : Int) then (if (rdOf ByteArray.empty t179 0).toList = ([97] : List UInt8) then (if 1 < (t179.length : Int) then (if (rdOf ByteArray.empty t179 1).toList = ([98] : List UInt8) then (if t180 = 0 then (if bt183.2 = 12 then (some (bt187.2 == 12)) else (some false)) else (some false)) else (some false)) else (none)) else (some false)) else (none)) else (some false)) else (some false)) else (some false)) else (none)) else (some false)))) = some r := H
 have A2 := Aside0.mk A20
 clear A20
 replace H := Option.bind_eq_some_iff.mp H
 obtain ⟨⟨t183, t184⟩, A30, H⟩ := H
 replace H : ((stream_Cut.f (⟨#[47, 97]⟩ : ByteArray)).bind fun bt187 => (if (t175.length : Int) = 8 then (if 4 ≤ (t175.length : Int) then (if (strOfNums (t175.take 4)).toList = ([67, 66, 0, 8] : List UInt8) then (if t176 = 0 then (if (t179.length : Int) = 2 then (if 0 < (t179.length : Int) then (if (rdOf ByteArray.empty t179 0).toList = ([97] : List UInt8) then (if 1 < (t179.length : Int) then (if (rdOf ByteArray.empty t179 1).toList = ([98] : List UInt8) then (if t180 = 0 then (if t184 = 12 then (some (bt187.2 == 12)) else (some false)) else (some false)) else (some false)) else (none)) else (some false)) else (none)) else (some false)) else (some false)) else (some false)) else (none)) else (some false))) = some r := H
 have A3 := Aside0.mk A30
 clear A30
 replace H := Option.bind_eq_some_iff.mp H
 obtain ⟨⟨t187, t188⟩, A40, H⟩ := H
 replace H : (if (t175.length : Int) = 8 then (if 4 ≤ (t175.length : Int) then (if (strOfNums (t175.take 4)).toList = ([67, 66, 0, 8] : List UInt8) then (if t176 = 0 then (if (t179.length : Int) = 2 then (if 0 < (t179.length : Int) then (if (rdOf ByteArray.empty t179 0).toList = ([97] : List UInt8) then (if 1 < (t179.length : Int) then (if (rdOf ByteArray.empty t179 1).toList = ([98] : List UInt8) then (if t180 = 0 then (if t184 = 12 then (some (t188 == 12)) else (some false)) else (some false)) else (some false)) else (none)) else (some false)) else (none)) else (some false)) else (some false)) else (some false)) else (none)) else (some false)) = some r := H
 have A4 := Aside0.mk A40
 clear A40
 by_cases c5 : (t175.length : Int) = 8
 ·rw [if_pos c5] at H
  have c5b0 : ((t175.length : Int) == 8) = true := beq_iff_eq.mpr c5
  have c5b1 : ((t175.length : Int) != 8) = false := bne_eq_false_iff_eq.mpr c5
  clear c5
  by_cases c6 : 4 ≤ (t175.length : Int)
  ·rw [if_pos c6] at H
   have c6b0 := eq_true c6
   have c6b1 : decide (4 ≤ (t175.length : Int)) = true := decide_eq_true c6
   clear c6
   obtain ⟨y191, hy191⟩ : ∃ y_ : List Int, y_ = (t175.take 4) := ⟨_, rfl⟩
   replace H : (if (strOfNums y191).toList = ([67, 66, 0, 8] : List UInt8) then (if t176 = 0 then (if (t179.length : Int) = 2 then (if 0 < (t179.length : Int) then (if (rdOf ByteArray.empty t179 0).toList = ([97] : List UInt8) then (if 1 < (t179.length : Int) then (if (rdOf ByteArray.empty t179 1).toList = ([98] : List UInt8) then (if t180 = 0 then (if t184 = 12 then (some (t188 == 12)) else (some false)) else (some false)) else (some false)) else (none)) else (some false)) else (none)) else (some false)) else (some false)) else (some false)) = some r := by first | (rw [hy191]; with_reducible exact H) | (have H2_ := (Option.bind_some _ _).symm.trans H; rw [hy191]; with_reducible exact H2_) | (have H2_ := (Option.bind_some _ _).symm.trans H; with_reducible exact H2_) | with_reducible exact H | (rw [hy191]; exact H) | exact H
   have Ny191 := Aside0.mk hy191
   clear hy191
   by_cases c7 : (strOfNums y191).toList = ([67, 66, 0, 8] : List UInt8)
   ·rw [if_pos c7] at H
    have c7b0 : ((strOfNums y191).toList == ([67, 66, 0, 8] : List UInt8)) = true := beq_iff_eq.mpr c7
    have c7b1 : ((strOfNums y191).toList != ([67, 66, 0, 8] : List UInt8)) = false := bne_eq_false_iff_eq.mpr c7
    clear c7
    by_cases c8 : t176 = 0
    ·rw [if_pos c8] at H
     have c8b0 : (t176 == 0) = true := beq_iff_eq.mpr c8
     have c8b1 : (t176 != 0) = false := bne_eq_false_iff_eq.mpr c8
     clear c8
     by_cases c9 : (t179.length : Int) = 2
     ·rw [if_pos c9] at H
      have c9b0 : ((t179.length : Int) == 2) = true := beq_iff_eq.mpr c9
      have c9b1 : ((t179.length : Int) != 2) = false := bne_eq_false_iff_eq.mpr c9
      clear c9
      by_cases c10 : 0 < (t179.length : Int)
      ·rw [if_pos c10] at H
       have c10b0 : decide (0 < (t179.length : Int)) = true := decide_eq_true c10
       have c10b1 : decide (0 < t179.length) = true := decide_eq_true (by omega)
       clear c10
       by_cases c11 : (rdOf ByteArray.empty t179 0).toList = ([97] : List UInt8)
       ·rw [if_pos c11] at H
        have c11b0 : ((rdOf ByteArray.empty t179 0).toList == ([97] : List UInt8)) = true := beq_iff_eq.mpr c11
        have c11b1 : ((rdOf ByteArray.empty t179 0).toList != ([97] : List UInt8)) = false := bne_eq_false_iff_eq.mpr c11
        clear c11
        by_cases c12 : 1 < (t179.length : Int)
        ·rw [if_pos c12] at H
         have c12b0 : decide (1 < (t179.length : Int)) = true := decide_eq_true c12
         have c12b1 : decide (1 < t179.length) = true := decide_eq_true (by omega)
         clear c12
         by_cases c13 : (rdOf ByteArray.empty t179 1).toList = ([98] : List UInt8)
         ·rw [if_pos c13] at H
          have c13b0 : ((rdOf ByteArray.empty t179 1).toList == ([98] : List UInt8)) = true := beq_iff_eq.mpr c13
          have c13b1 : ((rdOf ByteArray.empty t179 1).toList != ([98] : List UInt8)) = false := bne_eq_false_iff_eq.mpr c13
          clear c13
          by_cases c14 : t180 = 0
          ·rw [if_pos c14] at H
           have c14b0 : (t180 == 0) = true := beq_iff_eq.mpr c14
           have c14b1 : (t180 != 0) = false := bne_eq_false_iff_eq.mpr c14
           clear c14
           by_cases c15 : t184 = 12
           ·rw [if_pos c15] at H
            have c15b0 : (t184 == 12) = true := beq_iff_eq.mpr c15
            have c15b1 : (t184 != 12) = false := bne_eq_false_iff_eq.mpr c15
            clear c15
            obtain rfl := Option.some.inj H
            go_enter Tryd.func9, Tryd.ntmps9
            go_wp2_with (first | ((with_reducible refine gate_callee (f := 19) rfl ?_); refine goesL_ (some 10) rfl rfl Tryd.func19 q18_ rfl #[.slice none 0 0, .bool false] rfl q1_ ?_; (refine (stream_Put.calls k _ _ ([] : List (S37)) false t175 t176 _ ?side1 ?side2 A1.out).mono ?_); (case side1 => exact Kd.C_nil _ _); (case side2 => exact Nat.le_refl _); rintro e w16 ⟨v177, rfl, ho0, hb⟩; refine ⟨_, rfl, ?_⟩; have n0_ := Aside0.mk (Kd.R_lower ho0 (below_size q0_)); have n1_ := Aside0.mk (below_step q0_ hb); clear HB; have HO178 := n0_; have HB := n1_; clear n0_ n1_; (try clear hb); (try clear hb2); (try clear hk); (try clear hi); (try clear ho0)) | ((with_reducible refine gate_callee (f := 10) rfl ?_); refine goesL_ (some 14) rfl rfl Tryd.func10 q18_ rfl #[.string (⟨#[97, 47, 98]⟩ : ByteArray)] rfl q1_ ?_; (with_reducible refine (stream_Cut.calls (⟨#[97, 47, 98]⟩ : ByteArray) t179 t180 _ A2.out).mono ?_); rintro e w17 ⟨v181, rfl, ho0, hb⟩; refine ⟨_, rfl, ?_⟩; have n0_ := Aside0.mk (Kd.R_below q20_ hb); have n1_ := Aside0.mk (Kd.R_lower ho0 (below_size q0_)); have n2_ := Aside0.mk (below_step q0_ hb); clear HO178; clear HB; have HO178 := n0_; have HO182 := n1_; have HB := n2_; clear n0_ n1_ n2_; (try clear hb); (try clear hb2); (try clear hk); (try clear hi); (try clear ho0)) | ((with_reducible refine gate_callee (f := 10) rfl ?_); refine goesL_ (some 18) rfl rfl Tryd.func10 q18_ rfl #[.string (⟨#[]⟩ : ByteArray)] rfl q1_ ?_; (with_reducible refine (stream_Cut.calls (⟨#[]⟩ : ByteArray) t183 t184 _ A3.out).mono ?_); rintro e w18 ⟨v185, rfl, ho0, hb⟩; refine ⟨_, rfl, ?_⟩; have n0_ := Aside0.mk (Kd.R_below q20_ hb); have n1_ := Aside0.mk (Kd.R_elder' q15_ (Kd.R_base ho0) hb); have n2_ := Aside0.mk (Kd.R_lower (Kd.R_new' ho0 (Kd.R_lt q15_)) (below_size q0_)); have n3_ := Aside0.mk (below_step q0_ hb); clear HO178; clear HO182; clear HB; have HO178 := n0_; have HO182 := n1_; have HO186 := n2_; have HB := n3_; clear n0_ n1_ n2_ n3_; (try clear hb); (try clear hb2); (try clear hk); (try clear hi); (try clear ho0)) | ((with_reducible refine gate_callee (f := 10) rfl ?_); refine goesL_ (some 22) rfl rfl Tryd.func10 q18_ rfl #[.string (⟨#[47, 97]⟩ : ByteArray)] rfl q1_ ?_; (with_reducible refine (stream_Cut.calls (⟨#[47, 97]⟩ : ByteArray) t187 t188 _ A4.out).mono ?_); rintro e w19 ⟨v189, rfl, ho0, hb⟩; refine ⟨_, rfl, ?_⟩; have n0_ := Aside0.mk (Kd.R_below q20_ hb); have n1_ := Aside0.mk (Kd.R_elder' q15_ (Kd.R_base ho0) hb); have n2_ := Aside0.mk (Kd.R_elder' q28_ (Kd.R_base ho0) hb); have n3_ := Aside0.mk (Kd.R_lower (Kd.R_new' (Kd.R_new' ho0 (Kd.R_lt q15_)) (Kd.R_lt q28_)) (below_size q0_)); have n4_ := Aside0.mk (below_step q0_ hb); clear HO178; clear HO182; clear HO186; clear HB; have HO178 := n0_; have HO182 := n1_; have HO186 := n2_; have HO190 := n3_; have HB := n4_; clear n0_ n1_ n2_ n3_ n4_; (try clear hb); (try clear hb2); (try clear hk); (try clear hi); (try clear ho0); obtain ⟨Ao20, co20, eo20⟩ := Kd.R_slice HO178.out; subst eo20; have q21 : (4 : Int) ≤ ((t175.length : Int) : Int) := of_decide_eq_true q7_; obtain ⟨i021, hi021, _, hsz21, _⟩ := info_parts info5; have hroom21 : t175.length ≤ co20 := (Kd.R_reads' HO178.out).2.1; have hC21 : Kd.C (Kd.int .u8) _ Ao20 t175.length t175 := (Kd.R_reads' HO178.out).2.2; have hcut21 := cut_to (P := Tryd.prog) 35 5 .i64 Tryd.underlying35 hi021 Ao20 t175.length co20 4 (by omega) q21 hroom21; have hr21 := Kd.C_take (m := 4) hC21 (by omega); have hy21 : y191.length = (4 : Int).toNat := (by rw [Ny191.out, List.length_take]; omega); rw [← Ny191.out] at hr21; rw [← hy21] at hcut21; have HR194 := Aside0.mk hr21; have HC194 := Aside0.mk (show y191.length ≤ co20 from by omega); clear hr21 hC21 hroom21 hi021 hsz21; have KY21 := Aside0.mk hy21; clear hy21; have KL21 := Aside0.mk (show 4 ≤ t175.length from by omega); replace q21 := eq_true q21; have hcv22 := Kd.C_string (P := Tryd.prog) (A := Ao20) (c := co20) Tryd.underlying35 Tryd.underlying5 Tryd.underlying9 q37_; (try (have hcv22m := hcv22; simp only [Int.reduceToNat, List.length_take] at hcv22m)); obtain ⟨Ao23, co23, eo23⟩ := Kd.R_slice HO182.out; subst eo23; have p195 : 0 ≤ (0 : Int) := (by omega); have q195 : 0 < (t179.length : Int) := of_decide_eq_true q7_; obtain ⟨ad195, e195, hx195_0⟩ := Kd.at_string (Kd.R_reads' HO182.out).2.2 0 p195 q195; cases e195; have qi195 : (0 < t179.length) = True := eq_true (by omega); (try rw [show ((0 : Int)).toNat = 0 from rfl] at hx195_0); (try rw [Addr.add_zero'] at hx195_0); replace p195 := eq_true p195; replace q195 := eq_true q195; have p196 : 0 ≤ (1 : Int) := (by omega); have q196 : 1 < (t179.length : Int) := of_decide_eq_true q7_; obtain ⟨ad196, e196, hx196_0⟩ := Kd.at_string (Kd.R_reads' HO182.out).2.2 1 p196 q196; obtain rfl : ad195 = ad196 := (by injection e196); (try simp only [show (1 : Int).toNat = 1 from rfl, Nat.reduceMul, Nat.reduceEqDiff, Go.Addr.add, ↓reduceIte] at hx196_0); have qi196 : (1 < t179.length) = True := eq_true (by omega); (try rw [show ((1 : Int)).toNat = 1 from rfl] at hx196_0); replace p196 := eq_true p196; replace q196 := eq_true q196))
            go_ret
            exact ⟨q9_, by repeat (first | (with_reducible first | exact HB.out | apply below_alloc | apply pw_below_drewN | apply below_drew1) | exact HB.out)⟩
           ·rw [if_neg c15] at H
            have c15b0 : (t184 == 12) = false := beq_eq_false_iff_ne.mpr c15
            have c15b1 : (t184 != 12) = true := bne_iff_ne.mpr c15
            obtain rfl := Option.some.inj H
            go_enter Tryd.func9, Tryd.ntmps9
            go_wp2_with (first | ((with_reducible refine gate_callee (f := 19) rfl ?_); refine goesL_ (some 10) rfl rfl Tryd.func19 q18_ rfl #[.slice none 0 0, .bool false] rfl q1_ ?_; (refine (stream_Put.calls k _ _ ([] : List (S37)) false t175 t176 _ ?side1 ?side2 A1.out).mono ?_); (case side1 => exact Kd.C_nil _ _); (case side2 => exact Nat.le_refl _); rintro e w24 ⟨v177, rfl, ho0, hb⟩; refine ⟨_, rfl, ?_⟩; have n0_ := Aside0.mk (Kd.R_lower ho0 (below_size q0_)); have n1_ := Aside0.mk (below_step q0_ hb); clear HB; have HO178 := n0_; have HB := n1_; clear n0_ n1_; (try clear hb); (try clear hb2); (try clear hk); (try clear hi); (try clear ho0)) | ((with_reducible refine gate_callee (f := 10) rfl ?_); refine goesL_ (some 14) rfl rfl Tryd.func10 q18_ rfl #[.string (⟨#[97, 47, 98]⟩ : ByteArray)] rfl q1_ ?_; (with_reducible refine (stream_Cut.calls (⟨#[97, 47, 98]⟩ : ByteArray) t179 t180 _ A2.out).mono ?_); rintro e w25 ⟨v181, rfl, ho0, hb⟩; refine ⟨_, rfl, ?_⟩; have n0_ := Aside0.mk (Kd.R_below q20_ hb); have n1_ := Aside0.mk (Kd.R_lower ho0 (below_size q0_)); have n2_ := Aside0.mk (below_step q0_ hb); clear HO178; clear HB; have HO178 := n0_; have HO182 := n1_; have HB := n2_; clear n0_ n1_ n2_; (try clear hb); (try clear hb2); (try clear hk); (try clear hi); (try clear ho0)) | ((with_reducible refine gate_callee (f := 10) rfl ?_); refine goesL_ (some 18) rfl rfl Tryd.func10 q18_ rfl #[.string (⟨#[]⟩ : ByteArray)] rfl q1_ ?_; (with_reducible refine (stream_Cut.calls (⟨#[]⟩ : ByteArray) t183 t184 _ A3.out).mono ?_); rintro e w26 ⟨v185, rfl, ho0, hb⟩; refine ⟨_, rfl, ?_⟩; have n0_ := Aside0.mk (Kd.R_below q20_ hb); have n1_ := Aside0.mk (Kd.R_elder' q15_ (Kd.R_base ho0) hb); have n2_ := Aside0.mk (Kd.R_lower (Kd.R_new' ho0 (Kd.R_lt q15_)) (below_size q0_)); have n3_ := Aside0.mk (below_step q0_ hb); clear HO178; clear HO182; clear HB; have HO178 := n0_; have HO182 := n1_; have HO186 := n2_; have HB := n3_; clear n0_ n1_ n2_ n3_; (try clear hb); (try clear hb2); (try clear hk); (try clear hi); (try clear ho0)) | ((with_reducible refine gate_callee (f := 10) rfl ?_); refine goesL_ (some 22) rfl rfl Tryd.func10 q18_ rfl #[.string (⟨#[47, 97]⟩ : ByteArray)] rfl q1_ ?_; (with_reducible refine (stream_Cut.calls (⟨#[47, 97]⟩ : ByteArray) t187 t188 _ A4.out).mono ?_); rintro e w27 ⟨v189, rfl, ho0, hb⟩; refine ⟨_, rfl, ?_⟩; have n0_ := Aside0.mk (Kd.R_below q20_ hb); have n1_ := Aside0.mk (Kd.R_elder' q15_ (Kd.R_base ho0) hb); have n2_ := Aside0.mk (Kd.R_elder' q28_ (Kd.R_base ho0) hb); have n3_ := Aside0.mk (Kd.R_lower (Kd.R_new' (Kd.R_new' ho0 (Kd.R_lt q15_)) (Kd.R_lt q28_)) (below_size q0_)); have n4_ := Aside0.mk (below_step q0_ hb); clear HO178; clear HO182; clear HO186; clear HB; have HO178 := n0_; have HO182 := n1_; have HO186 := n2_; have HO190 := n3_; have HB := n4_; clear n0_ n1_ n2_ n3_ n4_; (try clear hb); (try clear hb2); (try clear hk); (try clear hi); (try clear ho0); obtain ⟨Ao28, co28, eo28⟩ := Kd.R_slice HO178.out; subst eo28; have q29 : (4 : Int) ≤ ((t175.length : Int) : Int) := of_decide_eq_true q7_; obtain ⟨i029, hi029, _, hsz29, _⟩ := info_parts info5; have hroom29 : t175.length ≤ co28 := (Kd.R_reads' HO178.out).2.1; have hC29 : Kd.C (Kd.int .u8) _ Ao28 t175.length t175 := (Kd.R_reads' HO178.out).2.2; have hcut29 := cut_to (P := Tryd.prog) 35 5 .i64 Tryd.underlying35 hi029 Ao28 t175.length co28 4 (by omega) q29 hroom29; have hr29 := Kd.C_take (m := 4) hC29 (by omega); have hy29 : y191.length = (4 : Int).toNat := (by rw [Ny191.out, List.length_take]; omega); rw [← Ny191.out] at hr29; rw [← hy29] at hcut29; have HR194 := Aside0.mk hr29; have HC194 := Aside0.mk (show y191.length ≤ co28 from by omega); clear hr29 hC29 hroom29 hi029 hsz29; have KY29 := Aside0.mk hy29; clear hy29; have KL29 := Aside0.mk (show 4 ≤ t175.length from by omega); replace q29 := eq_true q29; have hcv30 := Kd.C_string (P := Tryd.prog) (A := Ao28) (c := co28) Tryd.underlying35 Tryd.underlying5 Tryd.underlying9 q37_; (try (have hcv30m := hcv30; simp only [Int.reduceToNat, List.length_take] at hcv30m)); obtain ⟨Ao31, co31, eo31⟩ := Kd.R_slice HO182.out; subst eo31; have p195 : 0 ≤ (0 : Int) := (by omega); have q195 : 0 < (t179.length : Int) := of_decide_eq_true q7_; obtain ⟨ad195, e195, hx195_0⟩ := Kd.at_string (Kd.R_reads' HO182.out).2.2 0 p195 q195; cases e195; have qi195 : (0 < t179.length) = True := eq_true (by omega); (try rw [show ((0 : Int)).toNat = 0 from rfl] at hx195_0); (try rw [Addr.add_zero'] at hx195_0); replace p195 := eq_true p195; replace q195 := eq_true q195; have p196 : 0 ≤ (1 : Int) := (by omega); have q196 : 1 < (t179.length : Int) := of_decide_eq_true q7_; obtain ⟨ad196, e196, hx196_0⟩ := Kd.at_string (Kd.R_reads' HO182.out).2.2 1 p196 q196; obtain rfl : ad195 = ad196 := (by injection e196); (try simp only [show (1 : Int).toNat = 1 from rfl, Nat.reduceMul, Nat.reduceEqDiff, Go.Addr.add, ↓reduceIte] at hx196_0); have qi196 : (1 < t179.length) = True := eq_true (by omega); (try rw [show ((1 : Int)).toNat = 1 from rfl] at hx196_0); replace p196 := eq_true p196; replace q196 := eq_true q196))
            go_ret
            exact ⟨q9_, by repeat (first | (with_reducible first | exact HB.out | apply below_alloc | apply pw_below_drewN | apply below_drew1) | exact HB.out)⟩
          ·rw [if_neg c14] at H
           have c14b0 : (t180 == 0) = false := beq_eq_false_iff_ne.mpr c14
           have c14b1 : (t180 != 0) = true := bne_iff_ne.mpr c14
           obtain rfl := Option.some.inj H
           go_enter Tryd.func9, Tryd.ntmps9
           go_wp2_with (first | ((with_reducible refine gate_callee (f := 19) rfl ?_); refine goesL_ (some 10) rfl rfl Tryd.func19 q18_ rfl #[.slice none 0 0, .bool false] rfl q1_ ?_; (refine (stream_Put.calls k _ _ ([] : List (S37)) false t175 t176 _ ?side1 ?side2 A1.out).mono ?_); (case side1 => exact Kd.C_nil _ _); (case side2 => exact Nat.le_refl _); rintro e w32 ⟨v177, rfl, ho0, hb⟩; refine ⟨_, rfl, ?_⟩; have n0_ := Aside0.mk (Kd.R_lower ho0 (below_size q0_)); have n1_ := Aside0.mk (below_step q0_ hb); clear HB; have HO178 := n0_; have HB := n1_; clear n0_ n1_; (try clear hb); (try clear hb2); (try clear hk); (try clear hi); (try clear ho0)) | ((with_reducible refine gate_callee (f := 10) rfl ?_); refine goesL_ (some 14) rfl rfl Tryd.func10 q18_ rfl #[.string (⟨#[97, 47, 98]⟩ : ByteArray)] rfl q1_ ?_; (with_reducible refine (stream_Cut.calls (⟨#[97, 47, 98]⟩ : ByteArray) t179 t180 _ A2.out).mono ?_); rintro e w33 ⟨v181, rfl, ho0, hb⟩; refine ⟨_, rfl, ?_⟩; have n0_ := Aside0.mk (Kd.R_below q20_ hb); have n1_ := Aside0.mk (Kd.R_lower ho0 (below_size q0_)); have n2_ := Aside0.mk (below_step q0_ hb); clear HO178; clear HB; have HO178 := n0_; have HO182 := n1_; have HB := n2_; clear n0_ n1_ n2_; (try clear hb); (try clear hb2); (try clear hk); (try clear hi); (try clear ho0)) | ((with_reducible refine gate_callee (f := 10) rfl ?_); refine goesL_ (some 18) rfl rfl Tryd.func10 q18_ rfl #[.string (⟨#[]⟩ : ByteArray)] rfl q1_ ?_; (with_reducible refine (stream_Cut.calls (⟨#[]⟩ : ByteArray) t183 t184 _ A3.out).mono ?_); rintro e w34 ⟨v185, rfl, ho0, hb⟩; refine ⟨_, rfl, ?_⟩; have n0_ := Aside0.mk (Kd.R_below q20_ hb); have n1_ := Aside0.mk (Kd.R_elder' q15_ (Kd.R_base ho0) hb); have n2_ := Aside0.mk (Kd.R_lower (Kd.R_new' ho0 (Kd.R_lt q15_)) (below_size q0_)); have n3_ := Aside0.mk (below_step q0_ hb); clear HO178; clear HO182; clear HB; have HO178 := n0_; have HO182 := n1_; have HO186 := n2_; have HB := n3_; clear n0_ n1_ n2_ n3_; (try clear hb); (try clear hb2); (try clear hk); (try clear hi); (try clear ho0)) | ((with_reducible refine gate_callee (f := 10) rfl ?_); refine goesL_ (some 22) rfl rfl Tryd.func10 q18_ rfl #[.string (⟨#[47, 97]⟩ : ByteArray)] rfl q1_ ?_; (with_reducible refine (stream_Cut.calls (⟨#[47, 97]⟩ : ByteArray) t187 t188 _ A4.out).mono ?_); rintro e w35 ⟨v189, rfl, ho0, hb⟩; refine ⟨_, rfl, ?_⟩; have n0_ := Aside0.mk (Kd.R_below q20_ hb); have n1_ := Aside0.mk (Kd.R_elder' q15_ (Kd.R_base ho0) hb); have n2_ := Aside0.mk (Kd.R_elder' q28_ (Kd.R_base ho0) hb); have n3_ := Aside0.mk (Kd.R_lower (Kd.R_new' (Kd.R_new' ho0 (Kd.R_lt q15_)) (Kd.R_lt q28_)) (below_size q0_)); have n4_ := Aside0.mk (below_step q0_ hb); clear HO178; clear HO182; clear HO186; clear HB; have HO178 := n0_; have HO182 := n1_; have HO186 := n2_; have HO190 := n3_; have HB := n4_; clear n0_ n1_ n2_ n3_ n4_; (try clear hb); (try clear hb2); (try clear hk); (try clear hi); (try clear ho0); obtain ⟨Ao36, co36, eo36⟩ := Kd.R_slice HO178.out; subst eo36; have q37 : (4 : Int) ≤ ((t175.length : Int) : Int) := of_decide_eq_true q7_; obtain ⟨i037, hi037, _, hsz37, _⟩ := info_parts info5; have hroom37 : t175.length ≤ co36 := (Kd.R_reads' HO178.out).2.1; have hC37 : Kd.C (Kd.int .u8) _ Ao36 t175.length t175 := (Kd.R_reads' HO178.out).2.2; have hcut37 := cut_to (P := Tryd.prog) 35 5 .i64 Tryd.underlying35 hi037 Ao36 t175.length co36 4 (by omega) q37 hroom37; have hr37 := Kd.C_take (m := 4) hC37 (by omega); have hy37 : y191.length = (4 : Int).toNat := (by rw [Ny191.out, List.length_take]; omega); rw [← Ny191.out] at hr37; rw [← hy37] at hcut37; have HR194 := Aside0.mk hr37; have HC194 := Aside0.mk (show y191.length ≤ co36 from by omega); clear hr37 hC37 hroom37 hi037 hsz37; have KY37 := Aside0.mk hy37; clear hy37; have KL37 := Aside0.mk (show 4 ≤ t175.length from by omega); replace q37 := eq_true q37; have hcv38 := Kd.C_string (P := Tryd.prog) (A := Ao36) (c := co36) Tryd.underlying35 Tryd.underlying5 Tryd.underlying9 q37_; (try (have hcv38m := hcv38; simp only [Int.reduceToNat, List.length_take] at hcv38m)); obtain ⟨Ao39, co39, eo39⟩ := Kd.R_slice HO182.out; subst eo39; have p195 : 0 ≤ (0 : Int) := (by omega); have q195 : 0 < (t179.length : Int) := of_decide_eq_true q7_; obtain ⟨ad195, e195, hx195_0⟩ := Kd.at_string (Kd.R_reads' HO182.out).2.2 0 p195 q195; cases e195; have qi195 : (0 < t179.length) = True := eq_true (by omega); (try rw [show ((0 : Int)).toNat = 0 from rfl] at hx195_0); (try rw [Addr.add_zero'] at hx195_0); replace p195 := eq_true p195; replace q195 := eq_true q195; have p196 : 0 ≤ (1 : Int) := (by omega); have q196 : 1 < (t179.length : Int) := of_decide_eq_true q7_; obtain ⟨ad196, e196, hx196_0⟩ := Kd.at_string (Kd.R_reads' HO182.out).2.2 1 p196 q196; obtain rfl : ad195 = ad196 := (by injection e196); (try simp only [show (1 : Int).toNat = 1 from rfl, Nat.reduceMul, Nat.reduceEqDiff, Go.Addr.add, ↓reduceIte] at hx196_0); have qi196 : (1 < t179.length) = True := eq_true (by omega); (try rw [show ((1 : Int)).toNat = 1 from rfl] at hx196_0); replace p196 := eq_true p196; replace q196 := eq_true q196))
           go_ret
           exact ⟨q9_, by repeat (first | (with_reducible first | exact HB.out | apply below_alloc | apply pw_below_drewN | apply below_drew1) | exact HB.out)⟩
         ·rw [if_neg c13] at H
          have c13b0 : ((rdOf ByteArray.empty t179 1).toList == ([98] : List UInt8)) = false := beq_eq_false_iff_ne.mpr c13
          have c13b1 : ((rdOf ByteArray.empty t179 1).toList != ([98] : List UInt8)) = true := bne_iff_ne.mpr c13
          obtain rfl := Option.some.inj H
          go_enter Tryd.func9, Tryd.ntmps9
          go_wp2_with (first | ((with_reducible refine gate_callee (f := 19) rfl ?_); refine goesL_ (some 10) rfl rfl Tryd.func19 q18_ rfl #[.slice none 0 0, .bool false] rfl q1_ ?_; (refine (stream_Put.calls k _ _ ([] : List (S37)) false t175 t176 _ ?side1 ?side2 A1.out).mono ?_); (case side1 => exact Kd.C_nil _ _); (case side2 => exact Nat.le_refl _); rintro e w40 ⟨v177, rfl, ho0, hb⟩; refine ⟨_, rfl, ?_⟩; have n0_ := Aside0.mk (Kd.R_lower ho0 (below_size q0_)); have n1_ := Aside0.mk (below_step q0_ hb); clear HB; have HO178 := n0_; have HB := n1_; clear n0_ n1_; (try clear hb); (try clear hb2); (try clear hk); (try clear hi); (try clear ho0)) | ((with_reducible refine gate_callee (f := 10) rfl ?_); refine goesL_ (some 14) rfl rfl Tryd.func10 q18_ rfl #[.string (⟨#[97, 47, 98]⟩ : ByteArray)] rfl q1_ ?_; (with_reducible refine (stream_Cut.calls (⟨#[97, 47, 98]⟩ : ByteArray) t179 t180 _ A2.out).mono ?_); rintro e w41 ⟨v181, rfl, ho0, hb⟩; refine ⟨_, rfl, ?_⟩; have n0_ := Aside0.mk (Kd.R_below q20_ hb); have n1_ := Aside0.mk (Kd.R_lower ho0 (below_size q0_)); have n2_ := Aside0.mk (below_step q0_ hb); clear HO178; clear HB; have HO178 := n0_; have HO182 := n1_; have HB := n2_; clear n0_ n1_ n2_; (try clear hb); (try clear hb2); (try clear hk); (try clear hi); (try clear ho0)) | ((with_reducible refine gate_callee (f := 10) rfl ?_); refine goesL_ (some 18) rfl rfl Tryd.func10 q18_ rfl #[.string (⟨#[]⟩ : ByteArray)] rfl q1_ ?_; (with_reducible refine (stream_Cut.calls (⟨#[]⟩ : ByteArray) t183 t184 _ A3.out).mono ?_); rintro e w42 ⟨v185, rfl, ho0, hb⟩; refine ⟨_, rfl, ?_⟩; have n0_ := Aside0.mk (Kd.R_below q20_ hb); have n1_ := Aside0.mk (Kd.R_elder' q15_ (Kd.R_base ho0) hb); have n2_ := Aside0.mk (Kd.R_lower (Kd.R_new' ho0 (Kd.R_lt q15_)) (below_size q0_)); have n3_ := Aside0.mk (below_step q0_ hb); clear HO178; clear HO182; clear HB; have HO178 := n0_; have HO182 := n1_; have HO186 := n2_; have HB := n3_; clear n0_ n1_ n2_ n3_; (try clear hb); (try clear hb2); (try clear hk); (try clear hi); (try clear ho0)) | ((with_reducible refine gate_callee (f := 10) rfl ?_); refine goesL_ (some 22) rfl rfl Tryd.func10 q18_ rfl #[.string (⟨#[47, 97]⟩ : ByteArray)] rfl q1_ ?_; (with_reducible refine (stream_Cut.calls (⟨#[47, 97]⟩ : ByteArray) t187 t188 _ A4.out).mono ?_); rintro e w43 ⟨v189, rfl, ho0, hb⟩; refine ⟨_, rfl, ?_⟩; have n0_ := Aside0.mk (Kd.R_below q20_ hb); have n1_ := Aside0.mk (Kd.R_elder' q15_ (Kd.R_base ho0) hb); have n2_ := Aside0.mk (Kd.R_elder' q28_ (Kd.R_base ho0) hb); have n3_ := Aside0.mk (Kd.R_lower (Kd.R_new' (Kd.R_new' ho0 (Kd.R_lt q15_)) (Kd.R_lt q28_)) (below_size q0_)); have n4_ := Aside0.mk (below_step q0_ hb); clear HO178; clear HO182; clear HO186; clear HB; have HO178 := n0_; have HO182 := n1_; have HO186 := n2_; have HO190 := n3_; have HB := n4_; clear n0_ n1_ n2_ n3_ n4_; (try clear hb); (try clear hb2); (try clear hk); (try clear hi); (try clear ho0); obtain ⟨Ao44, co44, eo44⟩ := Kd.R_slice HO178.out; subst eo44; have q45 : (4 : Int) ≤ ((t175.length : Int) : Int) := of_decide_eq_true q7_; obtain ⟨i045, hi045, _, hsz45, _⟩ := info_parts info5; have hroom45 : t175.length ≤ co44 := (Kd.R_reads' HO178.out).2.1; have hC45 : Kd.C (Kd.int .u8) _ Ao44 t175.length t175 := (Kd.R_reads' HO178.out).2.2; have hcut45 := cut_to (P := Tryd.prog) 35 5 .i64 Tryd.underlying35 hi045 Ao44 t175.length co44 4 (by omega) q45 hroom45; have hr45 := Kd.C_take (m := 4) hC45 (by omega); have hy45 : y191.length = (4 : Int).toNat := (by rw [Ny191.out, List.length_take]; omega); rw [← Ny191.out] at hr45; rw [← hy45] at hcut45; have HR194 := Aside0.mk hr45; have HC194 := Aside0.mk (show y191.length ≤ co44 from by omega); clear hr45 hC45 hroom45 hi045 hsz45; have KY45 := Aside0.mk hy45; clear hy45; have KL45 := Aside0.mk (show 4 ≤ t175.length from by omega); replace q45 := eq_true q45; have hcv46 := Kd.C_string (P := Tryd.prog) (A := Ao44) (c := co44) Tryd.underlying35 Tryd.underlying5 Tryd.underlying9 q37_; (try (have hcv46m := hcv46; simp only [Int.reduceToNat, List.length_take] at hcv46m)); obtain ⟨Ao47, co47, eo47⟩ := Kd.R_slice HO182.out; subst eo47; have p195 : 0 ≤ (0 : Int) := (by omega); have q195 : 0 < (t179.length : Int) := of_decide_eq_true q7_; obtain ⟨ad195, e195, hx195_0⟩ := Kd.at_string (Kd.R_reads' HO182.out).2.2 0 p195 q195; cases e195; have qi195 : (0 < t179.length) = True := eq_true (by omega); (try rw [show ((0 : Int)).toNat = 0 from rfl] at hx195_0); (try rw [Addr.add_zero'] at hx195_0); replace p195 := eq_true p195; replace q195 := eq_true q195; have p196 : 0 ≤ (1 : Int) := (by omega); have q196 : 1 < (t179.length : Int) := of_decide_eq_true q7_; obtain ⟨ad196, e196, hx196_0⟩ := Kd.at_string (Kd.R_reads' HO182.out).2.2 1 p196 q196; obtain rfl : ad195 = ad196 := (by injection e196); (try simp only [show (1 : Int).toNat = 1 from rfl, Nat.reduceMul, Nat.reduceEqDiff, Go.Addr.add, ↓reduceIte] at hx196_0); have qi196 : (1 < t179.length) = True := eq_true (by omega); (try rw [show ((1 : Int)).toNat = 1 from rfl] at hx196_0); replace p196 := eq_true p196; replace q196 := eq_true q196))
          go_ret
          exact ⟨q9_, by repeat (first | (with_reducible first | exact HB.out | apply below_alloc | apply pw_below_drewN | apply below_drew1) | exact HB.out)⟩
        ·rw [if_neg c12] at H
         exact absurd H (by simp)
       ·rw [if_neg c11] at H
        have c11b0 : ((rdOf ByteArray.empty t179 0).toList == ([97] : List UInt8)) = false := beq_eq_false_iff_ne.mpr c11
        have c11b1 : ((rdOf ByteArray.empty t179 0).toList != ([97] : List UInt8)) = true := bne_iff_ne.mpr c11
        obtain rfl := Option.some.inj H
        go_enter Tryd.func9, Tryd.ntmps9
        go_wp2_with (first | ((with_reducible refine gate_callee (f := 19) rfl ?_); refine goesL_ (some 10) rfl rfl Tryd.func19 q18_ rfl #[.slice none 0 0, .bool false] rfl q1_ ?_; (refine (stream_Put.calls k _ _ ([] : List (S37)) false t175 t176 _ ?side1 ?side2 A1.out).mono ?_); (case side1 => exact Kd.C_nil _ _); (case side2 => exact Nat.le_refl _); rintro e w48 ⟨v177, rfl, ho0, hb⟩; refine ⟨_, rfl, ?_⟩; have n0_ := Aside0.mk (Kd.R_lower ho0 (below_size q0_)); have n1_ := Aside0.mk (below_step q0_ hb); clear HB; have HO178 := n0_; have HB := n1_; clear n0_ n1_; (try clear hb); (try clear hb2); (try clear hk); (try clear hi); (try clear ho0)) | ((with_reducible refine gate_callee (f := 10) rfl ?_); refine goesL_ (some 14) rfl rfl Tryd.func10 q18_ rfl #[.string (⟨#[97, 47, 98]⟩ : ByteArray)] rfl q1_ ?_; (with_reducible refine (stream_Cut.calls (⟨#[97, 47, 98]⟩ : ByteArray) t179 t180 _ A2.out).mono ?_); rintro e w49 ⟨v181, rfl, ho0, hb⟩; refine ⟨_, rfl, ?_⟩; have n0_ := Aside0.mk (Kd.R_below q20_ hb); have n1_ := Aside0.mk (Kd.R_lower ho0 (below_size q0_)); have n2_ := Aside0.mk (below_step q0_ hb); clear HO178; clear HB; have HO178 := n0_; have HO182 := n1_; have HB := n2_; clear n0_ n1_ n2_; (try clear hb); (try clear hb2); (try clear hk); (try clear hi); (try clear ho0)) | ((with_reducible refine gate_callee (f := 10) rfl ?_); refine goesL_ (some 18) rfl rfl Tryd.func10 q18_ rfl #[.string (⟨#[]⟩ : ByteArray)] rfl q1_ ?_; (with_reducible refine (stream_Cut.calls (⟨#[]⟩ : ByteArray) t183 t184 _ A3.out).mono ?_); rintro e w50 ⟨v185, rfl, ho0, hb⟩; refine ⟨_, rfl, ?_⟩; have n0_ := Aside0.mk (Kd.R_below q20_ hb); have n1_ := Aside0.mk (Kd.R_elder' q15_ (Kd.R_base ho0) hb); have n2_ := Aside0.mk (Kd.R_lower (Kd.R_new' ho0 (Kd.R_lt q15_)) (below_size q0_)); have n3_ := Aside0.mk (below_step q0_ hb); clear HO178; clear HO182; clear HB; have HO178 := n0_; have HO182 := n1_; have HO186 := n2_; have HB := n3_; clear n0_ n1_ n2_ n3_; (try clear hb); (try clear hb2); (try clear hk); (try clear hi); (try clear ho0)) | ((with_reducible refine gate_callee (f := 10) rfl ?_); refine goesL_ (some 22) rfl rfl Tryd.func10 q18_ rfl #[.string (⟨#[47, 97]⟩ : ByteArray)] rfl q1_ ?_; (with_reducible refine (stream_Cut.calls (⟨#[47, 97]⟩ : ByteArray) t187 t188 _ A4.out).mono ?_); rintro e w51 ⟨v189, rfl, ho0, hb⟩; refine ⟨_, rfl, ?_⟩; have n0_ := Aside0.mk (Kd.R_below q20_ hb); have n1_ := Aside0.mk (Kd.R_elder' q15_ (Kd.R_base ho0) hb); have n2_ := Aside0.mk (Kd.R_elder' q28_ (Kd.R_base ho0) hb); have n3_ := Aside0.mk (Kd.R_lower (Kd.R_new' (Kd.R_new' ho0 (Kd.R_lt q15_)) (Kd.R_lt q28_)) (below_size q0_)); have n4_ := Aside0.mk (below_step q0_ hb); clear HO178; clear HO182; clear HO186; clear HB; have HO178 := n0_; have HO182 := n1_; have HO186 := n2_; have HO190 := n3_; have HB := n4_; clear n0_ n1_ n2_ n3_ n4_; (try clear hb); (try clear hb2); (try clear hk); (try clear hi); (try clear ho0); obtain ⟨Ao52, co52, eo52⟩ := Kd.R_slice HO178.out; subst eo52; have q53 : (4 : Int) ≤ ((t175.length : Int) : Int) := of_decide_eq_true q7_; obtain ⟨i053, hi053, _, hsz53, _⟩ := info_parts info5; have hroom53 : t175.length ≤ co52 := (Kd.R_reads' HO178.out).2.1; have hC53 : Kd.C (Kd.int .u8) _ Ao52 t175.length t175 := (Kd.R_reads' HO178.out).2.2; have hcut53 := cut_to (P := Tryd.prog) 35 5 .i64 Tryd.underlying35 hi053 Ao52 t175.length co52 4 (by omega) q53 hroom53; have hr53 := Kd.C_take (m := 4) hC53 (by omega); have hy53 : y191.length = (4 : Int).toNat := (by rw [Ny191.out, List.length_take]; omega); rw [← Ny191.out] at hr53; rw [← hy53] at hcut53; have HR194 := Aside0.mk hr53; have HC194 := Aside0.mk (show y191.length ≤ co52 from by omega); clear hr53 hC53 hroom53 hi053 hsz53; have KY53 := Aside0.mk hy53; clear hy53; have KL53 := Aside0.mk (show 4 ≤ t175.length from by omega); replace q53 := eq_true q53; have hcv54 := Kd.C_string (P := Tryd.prog) (A := Ao52) (c := co52) Tryd.underlying35 Tryd.underlying5 Tryd.underlying9 q37_; (try (have hcv54m := hcv54; simp only [Int.reduceToNat, List.length_take] at hcv54m)); obtain ⟨Ao55, co55, eo55⟩ := Kd.R_slice HO182.out; subst eo55; have p195 : 0 ≤ (0 : Int) := (by omega); have q195 : 0 < (t179.length : Int) := of_decide_eq_true q7_; obtain ⟨ad195, e195, hx195_0⟩ := Kd.at_string (Kd.R_reads' HO182.out).2.2 0 p195 q195; cases e195; have qi195 : (0 < t179.length) = True := eq_true (by omega); (try rw [show ((0 : Int)).toNat = 0 from rfl] at hx195_0); (try rw [Addr.add_zero'] at hx195_0); replace p195 := eq_true p195; replace q195 := eq_true q195))
        go_ret
        exact ⟨q9_, by repeat (first | (with_reducible first | exact HB.out | apply below_alloc | apply pw_below_drewN | apply below_drew1) | exact HB.out)⟩
      ·rw [if_neg c10] at H
       exact absurd H (by simp)
     ·rw [if_neg c9] at H
      have c9b0 : ((t179.length : Int) == 2) = false := beq_eq_false_iff_ne.mpr c9
      have c9b1 : ((t179.length : Int) != 2) = true := bne_iff_ne.mpr c9
      obtain rfl := Option.some.inj H
      go_enter Tryd.func9, Tryd.ntmps9
      go_wp2_with (first | ((with_reducible refine gate_callee (f := 19) rfl ?_); refine goesL_ (some 10) rfl rfl Tryd.func19 q18_ rfl #[.slice none 0 0, .bool false] rfl q1_ ?_; (refine (stream_Put.calls k _ _ ([] : List (S37)) false t175 t176 _ ?side1 ?side2 A1.out).mono ?_); (case side1 => exact Kd.C_nil _ _); (case side2 => exact Nat.le_refl _); rintro e w56 ⟨v177, rfl, ho0, hb⟩; refine ⟨_, rfl, ?_⟩; have n0_ := Aside0.mk (Kd.R_lower ho0 (below_size q0_)); have n1_ := Aside0.mk (below_step q0_ hb); clear HB; have HO178 := n0_; have HB := n1_; clear n0_ n1_; (try clear hb); (try clear hb2); (try clear hk); (try clear hi); (try clear ho0)) | ((with_reducible refine gate_callee (f := 10) rfl ?_); refine goesL_ (some 14) rfl rfl Tryd.func10 q18_ rfl #[.string (⟨#[97, 47, 98]⟩ : ByteArray)] rfl q1_ ?_; (with_reducible refine (stream_Cut.calls (⟨#[97, 47, 98]⟩ : ByteArray) t179 t180 _ A2.out).mono ?_); rintro e w57 ⟨v181, rfl, ho0, hb⟩; refine ⟨_, rfl, ?_⟩; have n0_ := Aside0.mk (Kd.R_below q20_ hb); have n1_ := Aside0.mk (Kd.R_lower ho0 (below_size q0_)); have n2_ := Aside0.mk (below_step q0_ hb); clear HO178; clear HB; have HO178 := n0_; have HO182 := n1_; have HB := n2_; clear n0_ n1_ n2_; (try clear hb); (try clear hb2); (try clear hk); (try clear hi); (try clear ho0)) | ((with_reducible refine gate_callee (f := 10) rfl ?_); refine goesL_ (some 18) rfl rfl Tryd.func10 q18_ rfl #[.string (⟨#[]⟩ : ByteArray)] rfl q1_ ?_; (with_reducible refine (stream_Cut.calls (⟨#[]⟩ : ByteArray) t183 t184 _ A3.out).mono ?_); rintro e w58 ⟨v185, rfl, ho0, hb⟩; refine ⟨_, rfl, ?_⟩; have n0_ := Aside0.mk (Kd.R_below q20_ hb); have n1_ := Aside0.mk (Kd.R_elder' q15_ (Kd.R_base ho0) hb); have n2_ := Aside0.mk (Kd.R_lower (Kd.R_new' ho0 (Kd.R_lt q15_)) (below_size q0_)); have n3_ := Aside0.mk (below_step q0_ hb); clear HO178; clear HO182; clear HB; have HO178 := n0_; have HO182 := n1_; have HO186 := n2_; have HB := n3_; clear n0_ n1_ n2_ n3_; (try clear hb); (try clear hb2); (try clear hk); (try clear hi); (try clear ho0)) | ((with_reducible refine gate_callee (f := 10) rfl ?_); refine goesL_ (some 22) rfl rfl Tryd.func10 q18_ rfl #[.string (⟨#[47, 97]⟩ : ByteArray)] rfl q1_ ?_; (with_reducible refine (stream_Cut.calls (⟨#[47, 97]⟩ : ByteArray) t187 t188 _ A4.out).mono ?_); rintro e w59 ⟨v189, rfl, ho0, hb⟩; refine ⟨_, rfl, ?_⟩; have n0_ := Aside0.mk (Kd.R_below q20_ hb); have n1_ := Aside0.mk (Kd.R_elder' q15_ (Kd.R_base ho0) hb); have n2_ := Aside0.mk (Kd.R_elder' q28_ (Kd.R_base ho0) hb); have n3_ := Aside0.mk (Kd.R_lower (Kd.R_new' (Kd.R_new' ho0 (Kd.R_lt q15_)) (Kd.R_lt q28_)) (below_size q0_)); have n4_ := Aside0.mk (below_step q0_ hb); clear HO178; clear HO182; clear HO186; clear HB; have HO178 := n0_; have HO182 := n1_; have HO186 := n2_; have HO190 := n3_; have HB := n4_; clear n0_ n1_ n2_ n3_ n4_; (try clear hb); (try clear hb2); (try clear hk); (try clear hi); (try clear ho0); obtain ⟨Ao60, co60, eo60⟩ := Kd.R_slice HO178.out; subst eo60; have q61 : (4 : Int) ≤ ((t175.length : Int) : Int) := of_decide_eq_true q7_; obtain ⟨i061, hi061, _, hsz61, _⟩ := info_parts info5; have hroom61 : t175.length ≤ co60 := (Kd.R_reads' HO178.out).2.1; have hC61 : Kd.C (Kd.int .u8) _ Ao60 t175.length t175 := (Kd.R_reads' HO178.out).2.2; have hcut61 := cut_to (P := Tryd.prog) 35 5 .i64 Tryd.underlying35 hi061 Ao60 t175.length co60 4 (by omega) q61 hroom61; have hr61 := Kd.C_take (m := 4) hC61 (by omega); have hy61 : y191.length = (4 : Int).toNat := (by rw [Ny191.out, List.length_take]; omega); rw [← Ny191.out] at hr61; rw [← hy61] at hcut61; have HR194 := Aside0.mk hr61; have HC194 := Aside0.mk (show y191.length ≤ co60 from by omega); clear hr61 hC61 hroom61 hi061 hsz61; have KY61 := Aside0.mk hy61; clear hy61; have KL61 := Aside0.mk (show 4 ≤ t175.length from by omega); replace q61 := eq_true q61; have hcv62 := Kd.C_string (P := Tryd.prog) (A := Ao60) (c := co60) Tryd.underlying35 Tryd.underlying5 Tryd.underlying9 q37_; (try (have hcv62m := hcv62; simp only [Int.reduceToNat, List.length_take] at hcv62m)); obtain ⟨Ao63, co63, eo63⟩ := Kd.R_slice HO182.out; subst eo63))
      go_ret
      exact ⟨q9_, by repeat (first | (with_reducible first | exact HB.out | apply below_alloc | apply pw_below_drewN | apply below_drew1) | exact HB.out)⟩
    ·rw [if_neg c8] at H
     have c8b0 : (t176 == 0) = false := beq_eq_false_iff_ne.mpr c8
     have c8b1 : (t176 != 0) = true := bne_iff_ne.mpr c8
     obtain rfl := Option.some.inj H
     go_enter Tryd.func9, Tryd.ntmps9
     go_wp2_with (first | ((with_reducible refine gate_callee (f := 19) rfl ?_); refine goesL_ (some 10) rfl rfl Tryd.func19 q18_ rfl #[.slice none 0 0, .bool false] rfl q1_ ?_; (refine (stream_Put.calls k _ _ ([] : List (S37)) false t175 t176 _ ?side1 ?side2 A1.out).mono ?_); (case side1 => exact Kd.C_nil _ _); (case side2 => exact Nat.le_refl _); rintro e w64 ⟨v177, rfl, ho0, hb⟩; refine ⟨_, rfl, ?_⟩; have n0_ := Aside0.mk (Kd.R_lower ho0 (below_size q0_)); have n1_ := Aside0.mk (below_step q0_ hb); clear HB; have HO178 := n0_; have HB := n1_; clear n0_ n1_; (try clear hb); (try clear hb2); (try clear hk); (try clear hi); (try clear ho0)) | ((with_reducible refine gate_callee (f := 10) rfl ?_); refine goesL_ (some 14) rfl rfl Tryd.func10 q18_ rfl #[.string (⟨#[97, 47, 98]⟩ : ByteArray)] rfl q1_ ?_; (with_reducible refine (stream_Cut.calls (⟨#[97, 47, 98]⟩ : ByteArray) t179 t180 _ A2.out).mono ?_); rintro e w65 ⟨v181, rfl, ho0, hb⟩; refine ⟨_, rfl, ?_⟩; have n0_ := Aside0.mk (Kd.R_below q20_ hb); have n1_ := Aside0.mk (Kd.R_lower ho0 (below_size q0_)); have n2_ := Aside0.mk (below_step q0_ hb); clear HO178; clear HB; have HO178 := n0_; have HO182 := n1_; have HB := n2_; clear n0_ n1_ n2_; (try clear hb); (try clear hb2); (try clear hk); (try clear hi); (try clear ho0)) | ((with_reducible refine gate_callee (f := 10) rfl ?_); refine goesL_ (some 18) rfl rfl Tryd.func10 q18_ rfl #[.string (⟨#[]⟩ : ByteArray)] rfl q1_ ?_; (with_reducible refine (stream_Cut.calls (⟨#[]⟩ : ByteArray) t183 t184 _ A3.out).mono ?_); rintro e w66 ⟨v185, rfl, ho0, hb⟩; refine ⟨_, rfl, ?_⟩; have n0_ := Aside0.mk (Kd.R_below q20_ hb); have n1_ := Aside0.mk (Kd.R_elder' q15_ (Kd.R_base ho0) hb); have n2_ := Aside0.mk (Kd.R_lower (Kd.R_new' ho0 (Kd.R_lt q15_)) (below_size q0_)); have n3_ := Aside0.mk (below_step q0_ hb); clear HO178; clear HO182; clear HB; have HO178 := n0_; have HO182 := n1_; have HO186 := n2_; have HB := n3_; clear n0_ n1_ n2_ n3_; (try clear hb); (try clear hb2); (try clear hk); (try clear hi); (try clear ho0)) | ((with_reducible refine gate_callee (f := 10) rfl ?_); refine goesL_ (some 22) rfl rfl Tryd.func10 q18_ rfl #[.string (⟨#[47, 97]⟩ : ByteArray)] rfl q1_ ?_; (with_reducible refine (stream_Cut.calls (⟨#[47, 97]⟩ : ByteArray) t187 t188 _ A4.out).mono ?_); rintro e w67 ⟨v189, rfl, ho0, hb⟩; refine ⟨_, rfl, ?_⟩; have n0_ := Aside0.mk (Kd.R_below q20_ hb); have n1_ := Aside0.mk (Kd.R_elder' q15_ (Kd.R_base ho0) hb); have n2_ := Aside0.mk (Kd.R_elder' q28_ (Kd.R_base ho0) hb); have n3_ := Aside0.mk (Kd.R_lower (Kd.R_new' (Kd.R_new' ho0 (Kd.R_lt q15_)) (Kd.R_lt q28_)) (below_size q0_)); have n4_ := Aside0.mk (below_step q0_ hb); clear HO178; clear HO182; clear HO186; clear HB; have HO178 := n0_; have HO182 := n1_; have HO186 := n2_; have HO190 := n3_; have HB := n4_; clear n0_ n1_ n2_ n3_ n4_; (try clear hb); (try clear hb2); (try clear hk); (try clear hi); (try clear ho0); obtain ⟨Ao68, co68, eo68⟩ := Kd.R_slice HO178.out; subst eo68; have q69 : (4 : Int) ≤ ((t175.length : Int) : Int) := of_decide_eq_true q7_; obtain ⟨i069, hi069, _, hsz69, _⟩ := info_parts info5; have hroom69 : t175.length ≤ co68 := (Kd.R_reads' HO178.out).2.1; have hC69 : Kd.C (Kd.int .u8) _ Ao68 t175.length t175 := (Kd.R_reads' HO178.out).2.2; have hcut69 := cut_to (P := Tryd.prog) 35 5 .i64 Tryd.underlying35 hi069 Ao68 t175.length co68 4 (by omega) q69 hroom69; have hr69 := Kd.C_take (m := 4) hC69 (by omega); have hy69 : y191.length = (4 : Int).toNat := (by rw [Ny191.out, List.length_take]; omega); rw [← Ny191.out] at hr69; rw [← hy69] at hcut69; have HR194 := Aside0.mk hr69; have HC194 := Aside0.mk (show y191.length ≤ co68 from by omega); clear hr69 hC69 hroom69 hi069 hsz69; have KY69 := Aside0.mk hy69; clear hy69; have KL69 := Aside0.mk (show 4 ≤ t175.length from by omega); replace q69 := eq_true q69; have hcv70 := Kd.C_string (P := Tryd.prog) (A := Ao68) (c := co68) Tryd.underlying35 Tryd.underlying5 Tryd.underlying9 q37_; (try (have hcv70m := hcv70; simp only [Int.reduceToNat, List.length_take] at hcv70m))))
     go_ret
     exact ⟨q9_, by repeat (first | (with_reducible first | exact HB.out | apply below_alloc | apply pw_below_drewN | apply below_drew1) | exact HB.out)⟩
   ·rw [if_neg c7] at H
    have c7b0 : ((strOfNums y191).toList == ([67, 66, 0, 8] : List UInt8)) = false := beq_eq_false_iff_ne.mpr c7
    have c7b1 : ((strOfNums y191).toList != ([67, 66, 0, 8] : List UInt8)) = true := bne_iff_ne.mpr c7
    obtain rfl := Option.some.inj H
    go_enter Tryd.func9, Tryd.ntmps9
    go_wp2_with (first | ((with_reducible refine gate_callee (f := 19) rfl ?_); refine goesL_ (some 10) rfl rfl Tryd.func19 q18_ rfl #[.slice none 0 0, .bool false] rfl q1_ ?_; (refine (stream_Put.calls k _ _ ([] : List (S37)) false t175 t176 _ ?side1 ?side2 A1.out).mono ?_); (case side1 => exact Kd.C_nil _ _); (case side2 => exact Nat.le_refl _); rintro e w71 ⟨v177, rfl, ho0, hb⟩; refine ⟨_, rfl, ?_⟩; have n0_ := Aside0.mk (Kd.R_lower ho0 (below_size q0_)); have n1_ := Aside0.mk (below_step q0_ hb); clear HB; have HO178 := n0_; have HB := n1_; clear n0_ n1_; (try clear hb); (try clear hb2); (try clear hk); (try clear hi); (try clear ho0)) | ((with_reducible refine gate_callee (f := 10) rfl ?_); refine goesL_ (some 14) rfl rfl Tryd.func10 q18_ rfl #[.string (⟨#[97, 47, 98]⟩ : ByteArray)] rfl q1_ ?_; (with_reducible refine (stream_Cut.calls (⟨#[97, 47, 98]⟩ : ByteArray) t179 t180 _ A2.out).mono ?_); rintro e w72 ⟨v181, rfl, ho0, hb⟩; refine ⟨_, rfl, ?_⟩; have n0_ := Aside0.mk (Kd.R_below q20_ hb); have n1_ := Aside0.mk (Kd.R_lower ho0 (below_size q0_)); have n2_ := Aside0.mk (below_step q0_ hb); clear HO178; clear HB; have HO178 := n0_; have HO182 := n1_; have HB := n2_; clear n0_ n1_ n2_; (try clear hb); (try clear hb2); (try clear hk); (try clear hi); (try clear ho0)) | ((with_reducible refine gate_callee (f := 10) rfl ?_); refine goesL_ (some 18) rfl rfl Tryd.func10 q18_ rfl #[.string (⟨#[]⟩ : ByteArray)] rfl q1_ ?_; (with_reducible refine (stream_Cut.calls (⟨#[]⟩ : ByteArray) t183 t184 _ A3.out).mono ?_); rintro e w73 ⟨v185, rfl, ho0, hb⟩; refine ⟨_, rfl, ?_⟩; have n0_ := Aside0.mk (Kd.R_below q20_ hb); have n1_ := Aside0.mk (Kd.R_elder' q15_ (Kd.R_base ho0) hb); have n2_ := Aside0.mk (Kd.R_lower (Kd.R_new' ho0 (Kd.R_lt q15_)) (below_size q0_)); have n3_ := Aside0.mk (below_step q0_ hb); clear HO178; clear HO182; clear HB; have HO178 := n0_; have HO182 := n1_; have HO186 := n2_; have HB := n3_; clear n0_ n1_ n2_ n3_; (try clear hb); (try clear hb2); (try clear hk); (try clear hi); (try clear ho0)) | ((with_reducible refine gate_callee (f := 10) rfl ?_); refine goesL_ (some 22) rfl rfl Tryd.func10 q18_ rfl #[.string (⟨#[47, 97]⟩ : ByteArray)] rfl q1_ ?_; (with_reducible refine (stream_Cut.calls (⟨#[47, 97]⟩ : ByteArray) t187 t188 _ A4.out).mono ?_); rintro e w74 ⟨v189, rfl, ho0, hb⟩; refine ⟨_, rfl, ?_⟩; have n0_ := Aside0.mk (Kd.R_below q20_ hb); have n1_ := Aside0.mk (Kd.R_elder' q15_ (Kd.R_base ho0) hb); have n2_ := Aside0.mk (Kd.R_elder' q28_ (Kd.R_base ho0) hb); have n3_ := Aside0.mk (Kd.R_lower (Kd.R_new' (Kd.R_new' ho0 (Kd.R_lt q15_)) (Kd.R_lt q28_)) (below_size q0_)); have n4_ := Aside0.mk (below_step q0_ hb); clear HO178; clear HO182; clear HO186; clear HB; have HO178 := n0_; have HO182 := n1_; have HO186 := n2_; have HO190 := n3_; have HB := n4_; clear n0_ n1_ n2_ n3_ n4_; (try clear hb); (try clear hb2); (try clear hk); (try clear hi); (try clear ho0); obtain ⟨Ao75, co75, eo75⟩ := Kd.R_slice HO178.out; subst eo75; have q76 : (4 : Int) ≤ ((t175.length : Int) : Int) := of_decide_eq_true q7_; obtain ⟨i076, hi076, _, hsz76, _⟩ := info_parts info5; have hroom76 : t175.length ≤ co75 := (Kd.R_reads' HO178.out).2.1; have hC76 : Kd.C (Kd.int .u8) _ Ao75 t175.length t175 := (Kd.R_reads' HO178.out).2.2; have hcut76 := cut_to (P := Tryd.prog) 35 5 .i64 Tryd.underlying35 hi076 Ao75 t175.length co75 4 (by omega) q76 hroom76; have hr76 := Kd.C_take (m := 4) hC76 (by omega); have hy76 : y191.length = (4 : Int).toNat := (by rw [Ny191.out, List.length_take]; omega); rw [← Ny191.out] at hr76; rw [← hy76] at hcut76; have HR194 := Aside0.mk hr76; have HC194 := Aside0.mk (show y191.length ≤ co75 from by omega); clear hr76 hC76 hroom76 hi076 hsz76; have KY76 := Aside0.mk hy76; clear hy76; have KL76 := Aside0.mk (show 4 ≤ t175.length from by omega); replace q76 := eq_true q76; have hcv77 := Kd.C_string (P := Tryd.prog) (A := Ao75) (c := co75) Tryd.underlying35 Tryd.underlying5 Tryd.underlying9 q37_; (try (have hcv77m := hcv77; simp only [Int.reduceToNat, List.length_take] at hcv77m))))
    go_ret
    exact ⟨q9_, by repeat (first | (with_reducible first | exact HB.out | apply below_alloc | apply pw_below_drewN | apply below_drew1) | exact HB.out)⟩
  ·rw [if_neg c6] at H
   exact absurd H (by simp)
 ·rw [if_neg c5] at H
  have c5b0 : ((t175.length : Int) == 8) = false := beq_eq_false_iff_ne.mpr c5
  have c5b1 : ((t175.length : Int) != 8) = true := bne_iff_ne.mpr c5
  obtain rfl := Option.some.inj H
  go_enter Tryd.func9, Tryd.ntmps9
  go_wp2_with (first | ((with_reducible refine gate_callee (f := 19) rfl ?_); refine goesL_ (some 10) rfl rfl Tryd.func19 q18_ rfl #[.slice none 0 0, .bool false] rfl q1_ ?_; (refine (stream_Put.calls k _ _ ([] : List (S37)) false t175 t176 _ ?side1 ?side2 A1.out).mono ?_); (case side1 => exact Kd.C_nil _ _); (case side2 => exact Nat.le_refl _); rintro e w78 ⟨v177, rfl, ho0, hb⟩; refine ⟨_, rfl, ?_⟩; have n0_ := Aside0.mk (Kd.R_lower ho0 (below_size q0_)); have n1_ := Aside0.mk (below_step q0_ hb); clear HB; have HO178 := n0_; have HB := n1_; clear n0_ n1_; (try clear hb); (try clear hb2); (try clear hk); (try clear hi); (try clear ho0)) | ((with_reducible refine gate_callee (f := 10) rfl ?_); refine goesL_ (some 14) rfl rfl Tryd.func10 q18_ rfl #[.string (⟨#[97, 47, 98]⟩ : ByteArray)] rfl q1_ ?_; (with_reducible refine (stream_Cut.calls (⟨#[97, 47, 98]⟩ : ByteArray) t179 t180 _ A2.out).mono ?_); rintro e w79 ⟨v181, rfl, ho0, hb⟩; refine ⟨_, rfl, ?_⟩; have n0_ := Aside0.mk (Kd.R_below q20_ hb); have n1_ := Aside0.mk (Kd.R_lower ho0 (below_size q0_)); have n2_ := Aside0.mk (below_step q0_ hb); clear HO178; clear HB; have HO178 := n0_; have HO182 := n1_; have HB := n2_; clear n0_ n1_ n2_; (try clear hb); (try clear hb2); (try clear hk); (try clear hi); (try clear ho0)) | ((with_reducible refine gate_callee (f := 10) rfl ?_); refine goesL_ (some 18) rfl rfl Tryd.func10 q18_ rfl #[.string (⟨#[]⟩ : ByteArray)] rfl q1_ ?_; (with_reducible refine (stream_Cut.calls (⟨#[]⟩ : ByteArray) t183 t184 _ A3.out).mono ?_); rintro e w80 ⟨v185, rfl, ho0, hb⟩; refine ⟨_, rfl, ?_⟩; have n0_ := Aside0.mk (Kd.R_below q20_ hb); have n1_ := Aside0.mk (Kd.R_elder' q15_ (Kd.R_base ho0) hb); have n2_ := Aside0.mk (Kd.R_lower (Kd.R_new' ho0 (Kd.R_lt q15_)) (below_size q0_)); have n3_ := Aside0.mk (below_step q0_ hb); clear HO178; clear HO182; clear HB; have HO178 := n0_; have HO182 := n1_; have HO186 := n2_; have HB := n3_; clear n0_ n1_ n2_ n3_; (try clear hb); (try clear hb2); (try clear hk); (try clear hi); (try clear ho0)) | ((with_reducible refine gate_callee (f := 10) rfl ?_); refine goesL_ (some 22) rfl rfl Tryd.func10 q18_ rfl #[.string (⟨#[47, 97]⟩ : ByteArray)] rfl q1_ ?_; (with_reducible refine (stream_Cut.calls (⟨#[47, 97]⟩ : ByteArray) t187 t188 _ A4.out).mono ?_); rintro e w81 ⟨v189, rfl, ho0, hb⟩; refine ⟨_, rfl, ?_⟩; have n0_ := Aside0.mk (Kd.R_below q20_ hb); have n1_ := Aside0.mk (Kd.R_elder' q15_ (Kd.R_base ho0) hb); have n2_ := Aside0.mk (Kd.R_elder' q28_ (Kd.R_base ho0) hb); have n3_ := Aside0.mk (Kd.R_lower (Kd.R_new' (Kd.R_new' ho0 (Kd.R_lt q15_)) (Kd.R_lt q28_)) (below_size q0_)); have n4_ := Aside0.mk (below_step q0_ hb); clear HO178; clear HO182; clear HO186; clear HB; have HO178 := n0_; have HO182 := n1_; have HO186 := n2_; have HO190 := n3_; have HB := n4_; clear n0_ n1_ n2_ n3_ n4_; (try clear hb); (try clear hb2); (try clear hk); (try clear hi); (try clear ho0); obtain ⟨Ao82, co82, eo82⟩ := Kd.R_slice HO178.out; subst eo82))
  go_ret
  exact ⟨q9_, by repeat (first | (with_reducible first | exact HB.out | apply below_alloc | apply pw_below_drewN | apply below_drew1) | exact HB.out)⟩
def cambiumref14_Valid.l0 : Nat → ByteArray → Int → Option (Int)
 | 0, _, _ => none
 | k + 1, x0, x3 => if x3 < (x0.size : Int) then (if 0 ≤ x3 then (if (bt x0 x3) = 0 then (some 12) else (if (bt x0 x3) = 47 then (some 12) else (cambiumref14_Valid.l0 k x0 (wrap64 (x3 + 1))))) else (none)) else (if x0.toList = ([] : List UInt8) then (some 12) else (if x0.toList = ([46] : List UInt8) then (some 12) else (if x0.toList = ([46, 46] : List UInt8) then (some 12) else (some 0))))
def cambiumref14_Valid.f (k : Nat) (a0 : ByteArray) : Option (Int) := if (a0.size : Int) > 20 then (some 7) else (cambiumref14_Valid.l0 k a0 0)
set_option maxHeartbeats 8000000 in
set_option maxRecDepth 100000 in
theorem cambiumref14_Valid.calls (k : Nat) (a0 : ByteArray) (r : Int) (w : World) (h : cambiumref14_Valid.f k a0 = some r) :
  Calls Tryd.prog 15 #[.string a0] w fun e w' => e = .returned (.int .i64 r) ∧ Drawn0 w w' := by
 have H : (if (a0.size : Int) > 20 then (some 7) else (cambiumref14_Valid.l0 k a0 0)) = some r := h
 clear h
 by_cases c2 : (a0.size : Int) > 20
 ·rw [if_pos c2] at H
  have c2b0 : decide (20 < (a0.size : Int)) = true := decide_eq_true c2
  have c2b1 : decide (20 < a0.size) = true := decide_eq_true (by omega)
  clear c2
  obtain rfl := Option.some.inj H
  go_enter Tryd.func15, Tryd.ntmps15
  go_wp2
  go_ret
  exact ⟨q3_, by repeat (first | exact Drawn0.refl _ | apply Drawn0.step)⟩
 ·rw [if_neg c2] at H
  have c2b0 : decide (20 < (a0.size : Int)) = false := decide_eq_false c2
  have c2b1 : decide (20 < a0.size) = false := decide_eq_false (by omega)
  clear c2
  have H' := Aside0.mk H
  clear H
  go_enter Tryd.func15, Tryd.ntmps15
  go_wp2
  go_loopg [3] k (fun kq v3 w' => ∃ (x3_1 : Int), v3 = .int .i64 x3_1 ∧ Aside0 (cambiumref14_Valid.l0 kq a0 x3_1 = some r) ∧ Aside0 (kq ≤ k) ∧ Drawn0 w w')
  case atStart => exact ⟨(0), q3_, H', ⟨Nat.le_refl _⟩, by repeat (first | exact Drawn0.refl _ | apply Drawn0.step)⟩
  case round =>
   clear H'
   try clear c1
   try clear c2
   try clear c2b0
   try clear c2b1
   try clear p2
   obtain ⟨x3_1, rfl, HA, HK1, ⟨m1, rfl⟩⟩ := hrel
   cases gk with
   | zero => exact absurd (show none = some _ from HA.out) (by simp)
   | succ k1 =>
    have H := HA.out
    clear HA
    simp only [cambiumref14_Valid.l0] at H
    by_cases c3 : x3_1 < (a0.size : Int)
    ·rw [if_pos c3] at H
     have c3b0 : decide (x3_1 < (a0.size : Int)) = true := decide_eq_true c3
     clear c3
     by_cases c4 : 0 ≤ x3_1
     ·rw [if_pos c4] at H
      have c4b0 : decide (0 ≤ x3_1) = true := decide_eq_true c4
      clear c4
      by_cases c6 : (bt a0 x3_1) = 0
      ·rw [if_pos c6] at H
       have c6b0 : ((bt a0 x3_1) == 0) = true := beq_iff_eq.mpr c6
       have c6b1 : ((bt a0 x3_1) != 0) = false := bne_eq_false_iff_eq.mpr c6
       clear c6
       obtain rfl := Option.some.inj H
       have p5 : 0 ≤ (x3_1 : Int) := of_decide_eq_true q7_
       have q5 : x3_1 < (a0.size : Int) := of_decide_eq_true q7_
       have hx5 := bt_at a0 x3_1
       replace p5 := eq_true p5
       replace q5 := eq_true q5
       go_wp2
       go_ret
       exact ⟨q3_, by repeat (first | exact Drawn0.refl _ | apply Drawn0.step)⟩
      ·rw [if_neg c6] at H
       have c6b0 : ((bt a0 x3_1) == 0) = false := beq_eq_false_iff_ne.mpr c6
       have c6b1 : ((bt a0 x3_1) != 0) = true := bne_iff_ne.mpr c6
       by_cases c8 : (bt a0 x3_1) = 47
       ·rw [if_pos c8] at H
        have c8b0 : ((bt a0 x3_1) == 47) = true := beq_iff_eq.mpr c8
        have c8b1 : ((bt a0 x3_1) != 47) = false := bne_eq_false_iff_eq.mpr c8
        clear c8
        obtain rfl := Option.some.inj H
        have p5 : 0 ≤ (x3_1 : Int) := of_decide_eq_true q7_
        have q5 : x3_1 < (a0.size : Int) := of_decide_eq_true q7_
        have hx5 := bt_at a0 x3_1
        replace p5 := eq_true p5
        replace q5 := eq_true q5
        have p7 : 0 ≤ (x3_1 : Int) := of_decide_eq_true q7_
        have q7 : x3_1 < (a0.size : Int) := of_decide_eq_true q7_
        have hx7 := bt_at a0 x3_1
        replace p7 := eq_true p7
        replace q7 := eq_true q7
        go_wp2
        go_ret
        exact ⟨q3_, by repeat (first | exact Drawn0.refl _ | apply Drawn0.step)⟩
       ·rw [if_neg c8] at H
        have c8b0 : ((bt a0 x3_1) == 47) = false := beq_eq_false_iff_ne.mpr c8
        have c8b1 : ((bt a0 x3_1) != 47) = true := bne_iff_ne.mpr c8
        have H' := Aside0.mk H
        clear H
        have p5 : 0 ≤ (x3_1 : Int) := of_decide_eq_true q7_
        have q5 : x3_1 < (a0.size : Int) := of_decide_eq_true q7_
        have hx5 := bt_at a0 x3_1
        replace p5 := eq_true p5
        replace q5 := eq_true q5
        have p7 : 0 ≤ (x3_1 : Int) := of_decide_eq_true q7_
        have q7 : x3_1 < (a0.size : Int) := of_decide_eq_true q7_
        have hx7 := bt_at a0 x3_1
        replace p7 := eq_true p7
        replace q7 := eq_true q7
        go_wp2
        go_roundg k1
        case measure => have := HK1.out; omega
        case rel => exact ⟨(wrap64 (x3_1 + 1)), q3_, H', ⟨by have := HK1.out; omega⟩, by repeat (first | exact Drawn0.refl _ | apply Drawn0.step)⟩
     ·rw [if_neg c4] at H
      exact absurd H (by simp)
    ·rw [if_neg c3] at H
     have c3b0 : decide (x3_1 < (a0.size : Int)) = false := decide_eq_false c3
     clear c3
     by_cases c9 : a0.toList = ([] : List UInt8)
     ·rw [if_pos c9] at H
      have c9b0 : (a0.toList == ([] : List UInt8)) = true := beq_iff_eq.mpr c9
      have c9b1 : (a0.toList != ([] : List UInt8)) = false := bne_eq_false_iff_eq.mpr c9
      clear c9
      obtain rfl := Option.some.inj H
      go_wp2
      go_ret
      exact ⟨q3_, by repeat (first | exact Drawn0.refl _ | apply Drawn0.step)⟩
     ·rw [if_neg c9] at H
      have c9b0 : (a0.toList == ([] : List UInt8)) = false := beq_eq_false_iff_ne.mpr c9
      have c9b1 : (a0.toList != ([] : List UInt8)) = true := bne_iff_ne.mpr c9
      by_cases c10 : a0.toList = ([46] : List UInt8)
      ·rw [if_pos c10] at H
       have c10b0 : (a0.toList == ([46] : List UInt8)) = true := beq_iff_eq.mpr c10
       have c10b1 : (a0.toList != ([46] : List UInt8)) = false := bne_eq_false_iff_eq.mpr c10
       clear c10
       obtain rfl := Option.some.inj H
       go_wp2
       go_ret
       exact ⟨q3_, by repeat (first | exact Drawn0.refl _ | apply Drawn0.step)⟩
      ·rw [if_neg c10] at H
       have c10b0 : (a0.toList == ([46] : List UInt8)) = false := beq_eq_false_iff_ne.mpr c10
       have c10b1 : (a0.toList != ([46] : List UInt8)) = true := bne_iff_ne.mpr c10
       by_cases c11 : a0.toList = ([46, 46] : List UInt8)
       ·rw [if_pos c11] at H
        have c11b0 : (a0.toList == ([46, 46] : List UInt8)) = true := beq_iff_eq.mpr c11
        have c11b1 : (a0.toList != ([46, 46] : List UInt8)) = false := bne_eq_false_iff_eq.mpr c11
        clear c11
        obtain rfl := Option.some.inj H
        go_wp2
        go_ret
        exact ⟨q3_, by repeat (first | exact Drawn0.refl _ | apply Drawn0.step)⟩
       ·rw [if_neg c11] at H
        have c11b0 : (a0.toList == ([46, 46] : List UInt8)) = false := beq_eq_false_iff_ne.mpr c11
        have c11b1 : (a0.toList != ([46, 46] : List UInt8)) = true := bne_iff_ne.mpr c11
        obtain rfl := Option.some.inj H
        go_wp2
        go_ret
        exact ⟨q3_, by repeat (first | exact Drawn0.refl _ | apply Drawn0.step)⟩
def cambiumref14_Parts.l0 : Nat → ByteArray → List ByteArray → Int → Int → Option (List ByteArray)
 | 0, _, _, _, _ => none
 | k + 1, x0, x3, x4, x5 => if x5 ≤ (x0.size : Int) then (if x5 = (x0.size : Int) then (if 0 ≤ x4 then (if x4 ≤ x5 then (if x3.length < 8796093022208 then (cambiumref14_Parts.l0 k x0 (x3 ++ [x0.extract (x4 : Int).toNat (x5 : Int).toNat]) (wrap64 (x5 + 1)) (wrap64 (x5 + 1))) else (none)) else (none)) else (none)) else (if 0 ≤ x5 then (if x5 < (x0.size : Int) then (if (bt x0 x5) = 47 then (if 0 ≤ x4 then (if x4 ≤ x5 then (if x3.length < 8796093022208 then (cambiumref14_Parts.l0 k x0 (x3 ++ [x0.extract (x4 : Int).toNat (x5 : Int).toNat]) (wrap64 (x5 + 1)) (wrap64 (x5 + 1))) else (none)) else (none)) else (none)) else (cambiumref14_Parts.l0 k x0 x3 x4 (wrap64 (x5 + 1)))) else (none)) else (none))) else (some x3)
def cambiumref14_Parts.f (k : Nat) (a0 : ByteArray) : Option (List ByteArray) := cambiumref14_Parts.l0 k a0 (([] : List ByteArray)) 0 0
set_option maxHeartbeats 8000000 in
set_option maxRecDepth 100000 in
theorem cambiumref14_Parts.calls (k : Nat) (a0 : ByteArray) (r : List ByteArray) (w : World) (h : cambiumref14_Parts.f k a0 = some r) :
  Calls Tryd.prog 26 #[.string a0] w fun e w' => ∃ v0_ : Value, e = .returned (v0_) ∧ Kd.R Kd.string 9 w' w.heap.size (fun _ => True) v0_ r ∧ Below w.heap.size w w' := by
 have HB := Aside0.mk (Below.refl w.heap.size w)
 have H : (cambiumref14_Parts.l0 k a0 (([] : List ByteArray)) 0 0) = some r := h
 clear h
 obtain ⟨y197, hy197⟩ : ∃ y_ : List ByteArray, y_ = (([] : List ByteArray)) := ⟨_, rfl⟩
 replace H : (cambiumref14_Parts.l0 k a0 y197 0 0) = some r := by first | (rw [hy197]; with_reducible exact H) | (have H2_ := (Option.bind_some _ _).symm.trans H; rw [hy197]; with_reducible exact H2_) | (have H2_ := (Option.bind_some _ _).symm.trans H; with_reducible exact H2_) | with_reducible exact H | (rw [hy197]; exact H) | exact H
 have Ny197 := Aside0.mk hy197
 clear hy197
 have H' := Aside0.mk H
 clear H
 go_enter Tryd.func26, Tryd.ntmps26
 go_wp2_with (first | ((with_reducible refine gate_dst (N := 6) rfl ?_); refine Kd.R_lit Kd.string _ 9 ?hg (N := 6) ?hd (xs := ([] : List ByteArray)) (inner := []) (ok := fun _ => True) (okp := fun _ => True) ?hr ?hp (fun _ hk => hk) trivial (Below.refl _ _) (Nat.le_refl _) (by simp) ?_; (case hd => rfl); (case hg => rfl); (case hr => first | (go_simp; done) | (go_simp; rfl)); (case hp => exact (Reps.none _ _)); intro v198 w2 ho3 hb hg_ hnew_; clear hg_ hnew_; (first | rw [← Ny197.out] at ho3 | (simp only [Int.reduceToNat] at ho3; rw [← Ny197.out] at ho3)); have n0_ := Aside0.mk (Kd.R_lower ho3 (below_size q0_)); have n1_ := Aside0.mk (below_step q0_ hb); clear HB; have HO199 := n0_; have HB := n1_; clear n0_ n1_; clear hb ho3))
 go_loopg [3, 4, 5] k (fun kq v3 v4 v5 w' => ∃ (x3_1 : List ByteArray) (x4_1 : Int) (x5_1 : Int), v4 = .int .i64 x4_1 ∧ v5 = .int .i64 x5_1 ∧ Aside0 (cambiumref14_Parts.l0 kq a0 x3_1 x4_1 x5_1 = some r) ∧ Aside0 (kq ≤ k) ∧ Aside0 (Kd.R Kd.string 9 w' w.heap.size (fun _ => True) v3 x3_1) ∧ Aside0 (Below w.heap.size w w'))
 case atStart => exact ⟨(y197), (0), (0), q3_, q3_, H', ⟨Nat.le_refl _⟩, ⟨by (with_reducible repeat (first | apply Kd.R_alloc | apply Kd.R_drewN | apply Kd.R_drew)); exact HO199.out⟩, ⟨q0_⟩⟩
 case round =>
  clear H'
  try clear c2
  try clear p2
  obtain ⟨x3_1, x4_1, x5_1, rfl, rfl, HA, HK1, HO_3, HB⟩ := hrel
  cases gk with
  | zero => exact absurd (show none = some _ from HA.out) (by simp)
  | succ k1 =>
   have H := HA.out
   clear HA
   simp only [cambiumref14_Parts.l0] at H
   by_cases c4 : x5_1 ≤ (a0.size : Int)
   ·rw [if_pos c4] at H
    have c4b0 : decide (x5_1 ≤ (a0.size : Int)) = true := decide_eq_true c4
    clear c4
    by_cases c5 : x5_1 = (a0.size : Int)
    ·rw [if_pos c5] at H
     have c5b0 : (x5_1 == (a0.size : Int)) = true := beq_iff_eq.mpr c5
     have c5b1 : (x5_1 != (a0.size : Int)) = false := bne_eq_false_iff_eq.mpr c5
     clear c5
     by_cases c6 : 0 ≤ x4_1
     ·rw [if_pos c6] at H
      have c6b0 := eq_true c6
      have c6b1 : decide (0 ≤ x4_1) = true := decide_eq_true c6
      clear c6
      by_cases c7 : x4_1 ≤ x5_1
      ·rw [if_pos c7] at H
       have c7b0 := eq_true c7
       have c7b1 : decide (x4_1 ≤ x5_1) = true := decide_eq_true c7
       clear c7
       have c8b0 := eq_true (of_decide_eq_true q7_ : x5_1 ≤ (a0.size : Int))
       by_cases c9 : x3_1.length < 8796093022208
       ·rw [if_pos c9] at H
        have LMc9 := Aside0.mk c9
        clear c9
        obtain ⟨y200, hy200⟩ : ∃ y_ : List ByteArray, y_ = (x3_1 ++ [a0.extract (x4_1 : Int).toNat (x5_1 : Int).toNat]) := ⟨_, rfl⟩
        replace H : (cambiumref14_Parts.l0 k1 a0 y200 (wrap64 (x5_1 + 1)) (wrap64 (x5_1 + 1))) = some r := by first | (rw [hy200]; with_reducible exact H) | (have H2_ := (Option.bind_some _ _).symm.trans H; rw [hy200]; with_reducible exact H2_) | (have H2_ := (Option.bind_some _ _).symm.trans H; with_reducible exact H2_) | with_reducible exact H | (rw [hy200]; exact H) | exact H
        have Ny200 := Aside0.mk hy200
        clear hy200
        have H' := Aside0.mk H
        clear H
        go_wp2_with (first | ((with_reducible refine gate_builtin (b := .append) (xs := #[.tmp 23, .tmp 28]) rfl ?_); at_builtin; refine Kd.R_append Kd.string (w0 := w) w.heap.size rfl (.tmp 23) (.tmp 28) 22 9 (.string ⟨#[]⟩) 16 rfl Tryd.underlying22 info9 rfl q81_ (by omega) u3 x3_1 (a0.extract (x4_1 : Int).toNat (x5_1 : Int).toNat) [.string (a0.extract (x4_1 : Int).toNat (x5_1 : Int).toNat)] (fun _ => True) (fun _ => False) rfl rfl ?aP (fun _ hk => hk.elim) ?aF ?aO ?aB ?aS ?aL ?_; (case aP => exact rfl); (case aB => exact q0_); (case aF => exact (fun _ _ => trivial)); (case aO => exact (by (with_reducible repeat (first | apply Kd.R_alloc | apply Kd.R_drewN | apply Kd.R_drew)); exact HO_3.out)); (case aS => exact (below_size q0_)); (case aL => have := LMc9.out; omega); intro v201 w10 ho hb hg hat; rw [← Ny200.out] at ho; have n0_ := Aside0.mk (hb); have n1_ := Aside0.mk (ho); clear HB; clear HO_3; have HB := n0_; have HO202 := n1_; clear n0_ n1_; clear ho hb hg hat))
        go_roundg k1
        case measure => have := HK1.out; omega
        case rel => exact ⟨(y200), (wrap64 (x5_1 + 1)), (wrap64 (x5_1 + 1)), q3_, q3_, H', ⟨by have := HK1.out; omega⟩, ⟨by (with_reducible repeat (first | apply Kd.R_alloc | apply Kd.R_drewN | apply Kd.R_drew)); exact HO202.out⟩, ⟨q0_⟩⟩
       ·rw [if_neg c9] at H
        exact absurd H (by simp)
      ·rw [if_neg c7] at H
       exact absurd H (by simp)
     ·rw [if_neg c6] at H
      exact absurd H (by simp)
    ·rw [if_neg c5] at H
     have c5b0 : (x5_1 == (a0.size : Int)) = false := beq_eq_false_iff_ne.mpr c5
     have c5b1 : (x5_1 != (a0.size : Int)) = true := bne_iff_ne.mpr c5
     by_cases c11 : 0 ≤ x5_1
     ·rw [if_pos c11] at H
      have c11b0 : decide (0 ≤ x5_1) = true := decide_eq_true c11
      clear c11
      by_cases c12 : x5_1 < (a0.size : Int)
      ·rw [if_pos c12] at H
       have c12b0 : decide (x5_1 < (a0.size : Int)) = true := decide_eq_true c12
       clear c12
       by_cases c14 : (bt a0 x5_1) = 47
       ·rw [if_pos c14] at H
        have c14b0 : ((bt a0 x5_1) == 47) = true := beq_iff_eq.mpr c14
        have c14b1 : ((bt a0 x5_1) != 47) = false := bne_eq_false_iff_eq.mpr c14
        clear c14
        by_cases c15 : 0 ≤ x4_1
        ·rw [if_pos c15] at H
         have c15b0 := eq_true c15
         have c15b1 : decide (0 ≤ x4_1) = true := decide_eq_true c15
         clear c15
         by_cases c16 : x4_1 ≤ x5_1
         ·rw [if_pos c16] at H
          have c16b0 := eq_true c16
          have c16b1 : decide (x4_1 ≤ x5_1) = true := decide_eq_true c16
          clear c16
          have c17b0 := eq_true (of_decide_eq_true q7_ : x5_1 ≤ (a0.size : Int))
          by_cases c18 : x3_1.length < 8796093022208
          ·rw [if_pos c18] at H
           have LMc18 := Aside0.mk c18
           clear c18
           obtain ⟨y203, hy203⟩ : ∃ y_ : List ByteArray, y_ = (x3_1 ++ [a0.extract (x4_1 : Int).toNat (x5_1 : Int).toNat]) := ⟨_, rfl⟩
           replace H : (cambiumref14_Parts.l0 k1 a0 y203 (wrap64 (x5_1 + 1)) (wrap64 (x5_1 + 1))) = some r := by first | (rw [hy203]; with_reducible exact H) | (have H2_ := (Option.bind_some _ _).symm.trans H; rw [hy203]; with_reducible exact H2_) | (have H2_ := (Option.bind_some _ _).symm.trans H; with_reducible exact H2_) | with_reducible exact H | (rw [hy203]; exact H) | exact H
           have Ny203 := Aside0.mk hy203
           clear hy203
           have H' := Aside0.mk H
           clear H
           have p13 : 0 ≤ (x5_1 : Int) := of_decide_eq_true q7_
           have q13 : x5_1 < (a0.size : Int) := of_decide_eq_true q7_
           have hx13 := bt_at a0 x5_1
           replace p13 := eq_true p13
           replace q13 := eq_true q13
           go_wp2_with (first | ((with_reducible refine gate_builtin (b := .append) (xs := #[.tmp 23, .tmp 28]) rfl ?_); at_builtin; refine Kd.R_append Kd.string (w0 := w) w.heap.size rfl (.tmp 23) (.tmp 28) 22 9 (.string ⟨#[]⟩) 16 rfl Tryd.underlying22 info9 rfl q81_ (by omega) u3 x3_1 (a0.extract (x4_1 : Int).toNat (x5_1 : Int).toNat) [.string (a0.extract (x4_1 : Int).toNat (x5_1 : Int).toNat)] (fun _ => True) (fun _ => False) rfl rfl ?aP (fun _ hk => hk.elim) ?aF ?aO ?aB ?aS ?aL ?_; (case aP => exact rfl); (case aB => exact q0_); (case aF => exact (fun _ _ => trivial)); (case aO => exact (by (with_reducible repeat (first | apply Kd.R_alloc | apply Kd.R_drewN | apply Kd.R_drew)); exact HO_3.out)); (case aS => exact (below_size q0_)); (case aL => have := LMc18.out; omega); intro v204 w19 ho hb hg hat; rw [← Ny203.out] at ho; have n0_ := Aside0.mk (hb); have n1_ := Aside0.mk (ho); clear HB; clear HO_3; have HB := n0_; have HO205 := n1_; clear n0_ n1_; clear ho hb hg hat))
           go_roundg k1
           case measure => have := HK1.out; omega
           case rel => exact ⟨(y203), (wrap64 (x5_1 + 1)), (wrap64 (x5_1 + 1)), q3_, q3_, H', ⟨by have := HK1.out; omega⟩, ⟨by (with_reducible repeat (first | apply Kd.R_alloc | apply Kd.R_drewN | apply Kd.R_drew)); exact HO205.out⟩, ⟨q0_⟩⟩
          ·rw [if_neg c18] at H
           exact absurd H (by simp)
         ·rw [if_neg c16] at H
          exact absurd H (by simp)
        ·rw [if_neg c15] at H
         exact absurd H (by simp)
       ·rw [if_neg c14] at H
        have c14b0 : ((bt a0 x5_1) == 47) = false := beq_eq_false_iff_ne.mpr c14
        have c14b1 : ((bt a0 x5_1) != 47) = true := bne_iff_ne.mpr c14
        have H' := Aside0.mk H
        clear H
        have p13 : 0 ≤ (x5_1 : Int) := of_decide_eq_true q7_
        have q13 : x5_1 < (a0.size : Int) := of_decide_eq_true q7_
        have hx13 := bt_at a0 x5_1
        replace p13 := eq_true p13
        replace q13 := eq_true q13
        go_wp2
        go_roundg k1
        case measure => have := HK1.out; omega
        case rel => exact ⟨(x3_1), (x4_1), (wrap64 (x5_1 + 1)), q3_, q3_, H', ⟨by have := HK1.out; omega⟩, ⟨by (with_reducible repeat (first | apply Kd.R_alloc | apply Kd.R_drewN | apply Kd.R_drew)); exact HO_3.out⟩, ⟨q0_⟩⟩
      ·rw [if_neg c12] at H
       exact absurd H (by simp)
     ·rw [if_neg c11] at H
      exact absurd H (by simp)
   ·rw [if_neg c4] at H
    have c4b0 : decide (x5_1 ≤ (a0.size : Int)) = false := decide_eq_false c4
    clear c4
    obtain rfl := Option.some.inj H
    go_wp2
    go_ret
    exact ⟨_, by first | rfl | (simp [errW_none, errW_some] <;> rfl) | (simp [*, errW_none, errW_some] <;> rfl), by (with_reducible repeat (first | apply Kd.R_alloc | apply Kd.R_drewN | apply Kd.R_drew)); exact HO_3.out, by repeat (first | (with_reducible first | exact HB.out | apply below_alloc | apply pw_below_drewN | apply below_drew1) | exact HB.out)⟩
def cambiumref19_Cut.l0 : Nat → List ByteArray → Int → Option (List ByteArray × Int)
 | 0, _, _ => none
 | k + 1, x4, x5 => if x5 < (x4.length : Int) then (if 0 ≤ x5 then ((cambiumref14_Valid.f k (rdOf ByteArray.empty x4 x5)).bind fun t210 => (if t210 = 0 then (cambiumref19_Cut.l0 k x4 (wrap64 (x5 + 1))) else (some (([] : List ByteArray), t210)))) else (none)) else (some (x4, 0))
def cambiumref19_Cut.f (k : Nat) (a0 : ByteArray) : Option (List ByteArray × Int) := if (a0.size : Int) > 200 then (some (([] : List ByteArray), 7)) else ((cambiumref14_Parts.f k a0).bind fun t206 => (cambiumref19_Cut.l0 k t206 0))
set_option maxHeartbeats 8000000 in
set_option maxRecDepth 100000 in
theorem cambiumref19_Cut.calls (k : Nat) (a0 : ByteArray) (r1 : List ByteArray) (r2 : Int) (w : World) (h : cambiumref19_Cut.f k a0 = some (r1, r2)) :
  Calls Tryd.prog 11 #[.string a0] w fun e w' => ∃ v0_ : Value, e = .returned (.tuple #[v0_, .int .i64 r2]) ∧ Kd.R Kd.string 9 w' w.heap.size (fun _ => True) v0_ r1 ∧ Below w.heap.size w w' := by
 have HB := Aside0.mk (Below.refl w.heap.size w)
 have H : (if (a0.size : Int) > 200 then (some (([] : List ByteArray), 7)) else ((cambiumref14_Parts.f k a0).bind fun t206 => (cambiumref19_Cut.l0 k t206 0))) = some (r1, r2) := h
 clear h
 by_cases c2 : (a0.size : Int) > 200
 ·rw [if_pos c2] at H
  have c2b0 : decide (200 < (a0.size : Int)) = true := decide_eq_true c2
  have c2b1 : decide (200 < a0.size) = true := decide_eq_true (by omega)
  clear c2
  simp only [Option.some.injEq, Prod.mk.injEq] at H
  obtain ⟨rfl, rfl⟩ := H
  go_enter Tryd.func11, Tryd.ntmps11
  go_wp2
  go_ret2
  exact ⟨_, by first | rfl | (simp [errW_none, errW_some] <;> rfl) | (simp [*, errW_none, errW_some] <;> rfl), by first | exact Kd.R_nil _ _ _ _ _ | exact Kd.N_nil _ _ _ _ _ | exact Kd.V_nil _ _ _ _ _ | exact Kd.Q_nil _ _ _ _ _ | exact Kd.S_nil _ _ _ _ _, by repeat (first | (with_reducible first | exact HB.out | apply below_alloc | apply pw_below_drewN | apply below_drew1) | exact HB.out)⟩
 ·rw [if_neg c2] at H
  have c2b0 : decide (200 < (a0.size : Int)) = false := decide_eq_false c2
  have c2b1 : decide (200 < a0.size) = false := decide_eq_false (by omega)
  clear c2
  replace H := Option.bind_eq_some_iff.mp H
  obtain ⟨t206, A30, H⟩ := H
  replace H : (cambiumref19_Cut.l0 k t206 0) = some (r1, r2) := H
  have A3 := Aside0.mk A30
  clear A30
  have H' := Aside0.mk H
  clear H
  go_enter Tryd.func11, Tryd.ntmps11
  go_wp2_with (first | ((with_reducible refine gate_callee (f := 26) rfl ?_); refine goesL_ (some 11) rfl rfl Tryd.func26 q18_ rfl #[.string a0] rfl q1_ ?_; (with_reducible refine (cambiumref14_Parts.calls k a0 t206 _ A3.out).mono ?_); rintro e w4 ⟨v207, rfl, ho0, hb⟩; refine ⟨_, rfl, ?_⟩; have n0_ := Aside0.mk (Kd.R_lower ho0 (below_size q0_)); have n1_ := Aside0.mk (below_step q0_ hb); clear HB; have HO208 := n0_; have HB := n1_; clear n0_ n1_; (try clear hb); (try clear hb2); (try clear hk); (try clear hi); (try clear ho0)))
  go_loopg [5] k (fun kq v5 w' => ∃ (x5_1 : Int), v5 = .int .i64 x5_1 ∧ Aside0 (cambiumref19_Cut.l0 kq t206 x5_1 = some (r1, r2)) ∧ Aside0 (kq ≤ k) ∧ Aside0 (Kd.R Kd.string 9 w' w.heap.size (fun _ => True) v207 t206) ∧ Aside0 (Below w.heap.size w w'))
  case atStart => exact ⟨(0), q3_, H', ⟨Nat.le_refl _⟩, ⟨by (with_reducible repeat (first | apply Kd.R_alloc | apply Kd.R_drewN | apply Kd.R_drew)); exact HO208.out⟩, ⟨q0_⟩⟩
  case round =>
   clear H'
   try clear c1
   try clear c2
   try clear c2b0
   try clear c2b1
   try clear p2
   obtain ⟨x5_1, rfl, HA, HK1, HO_4, HB⟩ := hrel
   cases gk with
   | zero => exact absurd (show none = some _ from HA.out) (by simp)
   | succ k1 =>
    have H := HA.out
    clear HA
    simp only [cambiumref19_Cut.l0] at H
    by_cases c5 : x5_1 < (t206.length : Int)
    ·rw [if_pos c5] at H
     have c5b0 : decide (x5_1 < (t206.length : Int)) = true := decide_eq_true c5
     clear c5
     by_cases c6 : 0 ≤ x5_1
     ·rw [if_pos c6] at H
      have c6b0 : decide (0 ≤ x5_1) = true := decide_eq_true c6
      clear c6
      replace H := Option.bind_eq_some_iff.mp H
      obtain ⟨t210, A70, H⟩ := H
      replace H : (if t210 = 0 then (cambiumref19_Cut.l0 k1 t206 (wrap64 (x5_1 + 1))) else (some (([] : List ByteArray), t210))) = some (r1, r2) := H
      have A7 := Aside0.mk A70
      clear A70
      by_cases c8 : t210 = 0
      ·rw [if_pos c8] at H
       have c8b0 : (t210 == 0) = true := beq_iff_eq.mpr c8
       have c8b1 : (t210 != 0) = false := bne_eq_false_iff_eq.mpr c8
       clear c8
       have H' := Aside0.mk H
       clear H
       obtain ⟨Ao9, co9, eo9⟩ := Kd.R_slice HO_4.out
       subst eo9
       have p209 : 0 ≤ (x5_1 : Int) := of_decide_eq_true q7_
       have q209 : x5_1 < (t206.length : Int) := of_decide_eq_true q7_
       obtain ⟨ad209, e209, hx209_0⟩ := Kd.at_string (Kd.R_reads' HO_4.out).2.2 x5_1 p209 q209
       cases e209
       replace p209 := eq_true p209
       replace q209 := eq_true q209
       go_wp2_with (first | ((with_reducible refine gate_callee (f := 15) rfl ?_); refine goesL_ (some 22) rfl rfl Tryd.func15 q18_ rfl #[.string (rdOf ByteArray.empty t206 x5_1)] rfl q1_ ?_; (with_reducible refine (cambiumref14_Valid.calls k1 (rdOf ByteArray.empty t206 x5_1) t210 _ A7.out).mono ?_); rintro e w' ⟨rfl, ⟨nd, rfl⟩⟩; refine ⟨_, rfl, ?_⟩))
       go_roundg k1
       case measure => have := HK1.out; omega
       case rel => exact ⟨(wrap64 (x5_1 + 1)), q3_, H', ⟨by have := HK1.out; omega⟩, ⟨by (with_reducible repeat (first | apply Kd.R_alloc | apply Kd.R_drewN | apply Kd.R_drew)); exact HO_4.out⟩, ⟨q0_⟩⟩
      ·rw [if_neg c8] at H
       have c8b0 : (t210 == 0) = false := beq_eq_false_iff_ne.mpr c8
       have c8b1 : (t210 != 0) = true := bne_iff_ne.mpr c8
       simp only [Option.some.injEq, Prod.mk.injEq] at H
       obtain ⟨rfl, rfl⟩ := H
       obtain ⟨Ao10, co10, eo10⟩ := Kd.R_slice HO_4.out
       subst eo10
       have p209 : 0 ≤ (x5_1 : Int) := of_decide_eq_true q7_
       have q209 : x5_1 < (t206.length : Int) := of_decide_eq_true q7_
       obtain ⟨ad209, e209, hx209_0⟩ := Kd.at_string (Kd.R_reads' HO_4.out).2.2 x5_1 p209 q209
       cases e209
       replace p209 := eq_true p209
       replace q209 := eq_true q209
       go_wp2_with (first | ((with_reducible refine gate_callee (f := 15) rfl ?_); refine goesL_ (some 22) rfl rfl Tryd.func15 q18_ rfl #[.string (rdOf ByteArray.empty t206 x5_1)] rfl q1_ ?_; (with_reducible refine (cambiumref14_Valid.calls k1 (rdOf ByteArray.empty t206 x5_1) t210 _ A7.out).mono ?_); rintro e w' ⟨rfl, ⟨nd, rfl⟩⟩; refine ⟨_, rfl, ?_⟩))
       go_ret2
       exact ⟨_, by first | rfl | (simp [errW_none, errW_some] <;> rfl) | (simp [*, errW_none, errW_some] <;> rfl), by first | exact Kd.R_nil _ _ _ _ _ | exact Kd.N_nil _ _ _ _ _ | exact Kd.V_nil _ _ _ _ _ | exact Kd.Q_nil _ _ _ _ _ | exact Kd.S_nil _ _ _ _ _, by repeat (first | (with_reducible first | exact HB.out | apply below_alloc | apply pw_below_drewN | apply below_drew1) | exact HB.out)⟩
     ·rw [if_neg c6] at H
      exact absurd H (by simp)
    ·rw [if_neg c5] at H
     have c5b0 : decide (x5_1 < (t206.length : Int)) = false := decide_eq_false c5
     clear c5
     simp only [Option.some.injEq, Prod.mk.injEq] at H
     obtain ⟨rfl, rfl⟩ := H
     obtain ⟨Ao11, co11, eo11⟩ := Kd.R_slice HO_4.out
     subst eo11
     go_wp2
     go_ret2
     exact ⟨_, by first | rfl | (simp [errW_none, errW_some] <;> rfl) | (simp [*, errW_none, errW_some] <;> rfl), by (with_reducible repeat (first | apply Kd.R_alloc | apply Kd.R_drewN | apply Kd.R_drew)); exact HO_4.out, by repeat (first | (with_reducible first | exact HB.out | apply below_alloc | apply pw_below_drewN | apply below_drew1) | exact HB.out)⟩
end Go.Proofs.YtgklipfeheohkaaDoor.P
