/- Functions and contracts, written by a program (mkprint.py, a wrapper of ours around the print); texts between GIVEN marks are ours. -/
import Derived.Test.YtgklipfeheohkaaDoorPx0
import Derived.Test.YtgklipfeheohkaaDoorPx1
import Derived.Test.YtgklipfeheohkaaDoorPx2
import Derived.Test.YtgklipfeheohkaaDoorPx3
import Derived.Test.YtgklipfeheohkaaDoorPx4
import Derived.Test.YtgklipfeheohkaaDoorPx5
import Derived.Test.YtgklipfeheohkaaDoorPx7
namespace Go.Proofs.YtgklipfeheohkaaDoor.P
open Go.RowKit Go.Proofs.YtgklipfeheohkaaDoorW.PrintWords Go.Proofs.YtgklipfeheohkaaDoorW.PrintLast Go.Proofs.YtgklipfeheohkaaDoorW.PrintMore
attribute [local go_sem] max2_int min2_int max_two min_two max_three min_three max_four min_four   -- for this text's walks alone
set_option linter.unusedVariables false
set_option linter.unusedSimpArgs false
theorem q79_ {P : Prop} (h : P := by (with_reducible repeat (first | apply Kd.N_alloc | apply Kd.N_drewN | apply Kd.N_drew)); exact HO_0.out) : P := h
theorem q82_ {P : Prop} (h : P := by repeat (first | (with_reducible exact HR329_4.out) | (with_reducible refine Kd.C_alloc ?_ _) | (with_reducible refine Kd.C_drewN ?_ _) | (with_reducible refine Kd.C_drew ?_) | exact HR329_4.out)) : P := h
theorem q83_ {P : Prop} (h : P := by repeat (first | (with_reducible exact HR331_4.out) | (with_reducible refine Kd.C_alloc ?_ _) | (with_reducible refine Kd.C_drewN ?_ _) | (with_reducible refine Kd.C_drew ?_) | exact HR331_4.out)) : P := h

/-! ### cambiumlaw19_StreamPuts: function 5 -/
def cambiumlaw19_StreamPuts.l0 : Nat → List (S37) → Bool → Bool → Int → Option (Bool)
 | 0, _, _, _, _ => none
 | k + 1, x0, x1, x5, x6 => if x6 < (x0.length : Int) then (if 0 ≤ x6 then ((stream_Good.f k ((rd_T37 x0 x6).f0) ((rd_T37 x0 x6).f1) ((rd_T37 x0 x6).f2) ((rd_T37 x0 x6).f3) ((rd_T37 x0 x6).f4)).bind fun t330 => ((cambiumref19_Good.f k ((rd_T37 x0 x6).f0) ((rd_T37 x0 x6).f1) ((rd_T37 x0 x6).f2) ((rd_T37 x0 x6).f3) ((rd_T37 x0 x6).f4)).bind fun t332 => (if (t330 != t332) = true then (some false) else (cambiumlaw19_StreamPuts.l0 k x0 x1 x5 (wrap64 (x6 + 1)))))) else (none)) else ((stream_Put.f k x0 x1).bind fun bt321 => ((cambiumref19_Put.f k x0 x1).bind fun bt325 => (if x5 = true then (if (strOfNums bt321.1).toList = (strOfNums bt325.1).toList then (some (bt321.2 == bt325.2)) else (some false)) else (some false))))
def cambiumlaw19_StreamPuts.f (k : Nat) (l0 : List (S37)) (a1 : Bool) : Option (Bool) := (cambiumlaw19_shown.f k).bind fun t317 => ((cambiumlaw19_few.f k l0).bind fun t318 => (cambiumlaw19_StreamPuts.l0 k t318 a1 t317 0))
theorem cambiumlaw19_StreamPuts.mono_l : ∀ k, (∀ y0 y1 y2 y3, LeO (cambiumlaw19_StreamPuts.l0 k y0 y1 y2 y3) (cambiumlaw19_StreamPuts.l0 (k + 1) y0 y1 y2 y3))
 | 0 => fun _ _ _ _ r h => absurd (show none = some r from h) (by simp)
 | k + 1 => by
  have ih0 := cambiumlaw19_StreamPuts.mono_l k
  ·intro y0 y1 y2 y3
   unfold cambiumlaw19_StreamPuts.l0
   repeat' first
   | (with_reducible exact ih0 _ _ _ _)
   | (with_reducible exact cambiumlaw19_few.mono _ _)
   | (with_reducible exact cambiumlaw19_shown.mono _)
   | (with_reducible exact cambiumref19_Good.mono _ _ _ _ _ _)
   | (with_reducible exact cambiumref19_Put.mono _ _ _)
   | (with_reducible exact stream_Good.mono _ _ _ _ _ _)
   | (with_reducible exact stream_Put.mono _ _ _)
   | (with_reducible exact LeO.refl _)
   | (with_reducible exact LeO.none _)
   | (with_reducible refine LeO.ite ?_ ?_)
   | (with_reducible refine LeO.bind ?_ (fun _ => ?_))
   | exact ih0 _ _ _ _
   | exact cambiumlaw19_few.mono _ _
   | exact cambiumlaw19_shown.mono _
   | exact cambiumref19_Good.mono _ _ _ _ _ _
   | exact cambiumref19_Put.mono _ _ _
   | exact stream_Good.mono _ _ _ _ _ _
   | exact stream_Put.mono _ _ _
   | exact LeO.none _
   | refine LeO.ite ?_ ?_
   | refine LeO.bind ?_ (fun _ => ?_)
theorem cambiumlaw19_StreamPuts.mono : ∀ a0 a1 k, LeO (cambiumlaw19_StreamPuts.f k a0 a1) (cambiumlaw19_StreamPuts.f (k + 1) a0 a1) := by
 intro a0 a1 k
 have ih0 := cambiumlaw19_StreamPuts.mono_l k
 unfold cambiumlaw19_StreamPuts.f
 repeat' first
   | (with_reducible exact ih0 _ _ _ _)
   | (with_reducible exact cambiumlaw19_few.mono _ _)
   | (with_reducible exact cambiumlaw19_shown.mono _)
   | (with_reducible exact cambiumref19_Good.mono _ _ _ _ _ _)
   | (with_reducible exact cambiumref19_Put.mono _ _ _)
   | (with_reducible exact stream_Good.mono _ _ _ _ _ _)
   | (with_reducible exact stream_Put.mono _ _ _)
   | (with_reducible exact LeO.refl _)
   | (with_reducible exact LeO.none _)
   | (with_reducible refine LeO.ite ?_ ?_)
   | (with_reducible refine LeO.bind ?_ (fun _ => ?_))
   | exact ih0 _ _ _ _
   | exact cambiumlaw19_few.mono _ _
   | exact cambiumlaw19_shown.mono _
   | exact cambiumref19_Good.mono _ _ _ _ _ _
   | exact cambiumref19_Put.mono _ _ _
   | exact stream_Good.mono _ _ _ _ _ _
   | exact stream_Put.mono _ _ _
   | exact LeO.none _
   | refine LeO.ite ?_ ?_
   | refine LeO.bind ?_ (fun _ => ?_)
def cambiumlaw19_StreamPuts.T6 : Bool × List (List Nat × List Nat) := (true, [([], []), ([], []), ([0, 1], [0, 1]), ([2], [2]), ([3], [3]), ([], []), ([], []), ([5, 6], [5, 6]), ([7], [7]), ([8, 4], [8]), ([4, 9], [4, 9])])
def cambiumlaw19_StreamPuts.B6 : List Nat := [0, 0, 3, 7, 15, 0, 0, 96, 224, 511, 1023]
theorem cambiumlaw19_StreamPuts.tab6 : rtab .any (opsOf Tryd.f5 6) = cambiumlaw19_StreamPuts.T6 := by kernel_rfl
theorem cambiumlaw19_StreamPuts.bits6 : waitsOk cambiumlaw19_StreamPuts.T6.2 cambiumlaw19_StreamPuts.B6 = true := by kernel_rfl
set_option maxHeartbeats 8000000 in
set_option maxRecDepth 100000 in
theorem cambiumlaw19_StreamPuts.calls (k : Nat) (A0 : Option Addr) (c0 : Nat) (l0 : List (S37)) (a1 : Bool) (r : Bool) (w : World) (hr0 : Kd.C k37 w A0 l0.length l0) (hc0 : l0.length ≤ c0) (hr_ : Aside0 (r = true)) (h : cambiumlaw19_StreamPuts.f k l0 a1 = some r) :
  Calls Tryd.prog 5 #[.slice A0 l0.length c0, .bool a1] w fun e w' => e = .returned (.bool r) ∧ Below w.heap.size w w' := by
 have hu37 := Tryd.underlying37
 have HR0 := Aside0.mk hr0
 have HC0 := Aside0.mk hc0
 clear hr0 hc0
 have HB := Aside0.mk (Below.refl w.heap.size w)
 have H : ((cambiumlaw19_shown.f k).bind fun t317 => ((cambiumlaw19_few.f k l0).bind fun t318 => (cambiumlaw19_StreamPuts.l0 k t318 a1 t317 0))) = some r := h
 clear h
 replace H := Option.bind_eq_some_iff.mp H
 obtain ⟨t317, A30, H⟩ := H
 replace H : ((cambiumlaw19_few.f k l0).bind fun t318 => (cambiumlaw19_StreamPuts.l0 k t318 a1 t317 0)) = some r := H
 have A3 := Aside0.mk A30
 clear A30
 replace H := Option.bind_eq_some_iff.mp H
 obtain ⟨t318, A40, H⟩ := H
 replace H : (cambiumlaw19_StreamPuts.l0 k t318 a1 t317 0) = some r := H
 have A4 := Aside0.mk A40
 clear A40
 have H' := Aside0.mk H
 clear H
 go_enter Tryd.func5, Tryd.ntmps5
 go_wp2_with (first | ((with_reducible refine gate_callee (f := 9) rfl ?_); refine goesL_ (some 11) rfl rfl Tryd.func9 q37_ rfl #[] rfl q3_ ?_; (with_reducible refine (cambiumlaw19_shown.calls k  t317 _ A3.out).mono ?_); rintro e w5 ⟨rfl, hb⟩; refine ⟨_, rfl, ?_⟩; have n0_ := Aside0.mk (below_step q0_ hb); clear HB; have HB := n0_; clear n0_; (try clear hb); (try clear hb2); (try clear hk); (try clear hi)) | ((with_reducible refine gate_callee (f := 16) rfl ?_); refine goesL_ (some 13) rfl rfl Tryd.func16 q37_ rfl #[.slice A0 l0.length c0] rfl q3_ ?_; (with_reducible refine (cambiumlaw19_few.calls k (fun k_ => k_ < w.heap.size) _ _ l0 t318 _ ?side1 A4.out).mono ?_); (case side1 => exact Kd.V_mk HC0.out (Kd.F_below (Kd.C_F k37_heap HR0.out) q0_)); rintro e w6 ⟨v319, rfl, ho0, hb⟩; refine ⟨_, rfl, ?_⟩; have n0_ := Aside0.mk (Kd.N_lower (Kd.N_mono (ok' := fun k_ => True) ho0 (fun k_ hk_ => trivial)) (below_size q0_)); have n1_ := Aside0.mk (below_step q0_ hb); clear HB; have HO320 := n0_; have HB := n1_; clear n0_ n1_; (try clear hb); (try clear hb2); (try clear hk); (try clear hi); (try clear ho0)))
 go_loopg [6] k (fun kq v6 w' => ∃ (x6_1 : Int), v6 = .int .i64 x6_1 ∧ Aside0 (cambiumlaw19_StreamPuts.l0 kq t318 a1 t317 x6_1 = some r) ∧ Aside0 (kq ≤ k) ∧ Aside0 (Kd.N k37 37 w' w.heap.size (fun _ => True) v319 t318) ∧ Aside0 (Below w.heap.size w w'))
 case atStart => exact ⟨(0), q4_, H', ⟨Nat.le_refl _⟩, ⟨by (with_reducible repeat (first | apply Kd.N_alloc | apply Kd.N_drewN | apply Kd.N_drew)); exact HO320.out⟩, ⟨q0_⟩⟩
 case round =>
  clear H'
  try clear c1
  try clear p2
  try clear c5
  obtain ⟨x6_1, rfl, HA, HK1, HO_0, HB⟩ := hrel
  cases gk with
  | zero => exact absurd (show none = some _ from HA.out) (by simp)
  | succ k1 =>
   have H := HA.out
   clear HA
   simp only [cambiumlaw19_StreamPuts.l0] at H
   by_cases c7 : x6_1 < (t318.length : Int)
   ·rw [if_pos c7] at H
    have c7b0 : decide (x6_1 < (t318.length : Int)) = true := decide_eq_true c7
    clear c7
    by_cases c8 : 0 ≤ x6_1
    ·rw [if_pos c8] at H
     have c8b0 : decide (0 ≤ x6_1) = true := decide_eq_true c8
     clear c8
     replace H := Option.bind_eq_some_iff.mp H
     obtain ⟨t330, A90, H⟩ := H
     replace H : ((cambiumref19_Good.f k1 ((rd_T37 t318 x6_1).f0) ((rd_T37 t318 x6_1).f1) ((rd_T37 t318 x6_1).f2) ((rd_T37 t318 x6_1).f3) ((rd_T37 t318 x6_1).f4)).bind fun t332 => (if (t330 != t332) = true then (some false) else (cambiumlaw19_StreamPuts.l0 k1 t318 a1 t317 (wrap64 (x6_1 + 1))))) = some r := H
     have A9 := Aside0.mk A90
     clear A90
     replace H := Option.bind_eq_some_iff.mp H
     obtain ⟨t332, A100, H⟩ := H
     replace H : (if (t330 != t332) = true then (some false) else (cambiumlaw19_StreamPuts.l0 k1 t318 a1 t317 (wrap64 (x6_1 + 1)))) = some r := H
     have A10 := Aside0.mk A100
     clear A100
     by_cases c11 : (t330 != t332) = true
     ·rw [if_pos c11] at H
      have c11b0 : (t330 != t332) = true := c11
      (try (have c11b1 : decide (t330 = t332) = false := by simpa using c11))
      (try (have c11b2 : (t330 == t332) = false := by simpa using c11))
      (try (have c11b3 : ¬ (t330 = t332) := by simpa using c11))
      clear c11
      exact absurd (Option.some.inj H) (by rw [hr_.out]; decide)
     ·rw [if_neg c11] at H
      have c11b0 : (t330 != t332) = false := by simpa using c11
      (try (have c11b1 : decide (t330 = t332) = true := by simpa using c11))
      (try (have c11b2 : (t330 == t332) = true := by simpa using c11))
      clear c11
      have H' := Aside0.mk H
      clear H
      obtain ⟨Ao12, co12, eo12⟩ := Kd.N_slice HO_0.out
      subst eo12
      try go_wp2
      have n0_ := Aside0.mk (Kd.N_drew HO_0.out)
      have n1_ := Aside0.mk (below_drew1 HB.out)
      clear HO_0
      clear HB
      have HO_0 := n0_
      have HB := n1_
      clear n0_ n1_
      have p329 : 0 ≤ (x6_1 : Int) := of_decide_eq_true q7_
      have q329 : x6_1 < (t318.length : Int) := of_decide_eq_true q7_
      obtain ⟨ad329, A329_4, c329_4, e329, hx329_0, hx329_1, hx329_2, hx329_3, hx329_4, hl329_4, hi329_4⟩ := at_T37 (Kd.N_reads' HO_0.out).2.2 x6_1 p329 q329
      cases e329
      obtain ⟨ce329, hce329, hMe329, hcc329⟩ := Kd.N_get HO_0.out z37 x6_1 p329 (by first | exact q329 | exact of_decide_eq_true q7_ | (have e_ := (Kd.N_reads' HO_0.out).1; omega))
      obtain ⟨ua329_4, uc329_4, rfl, ul329_4, ge329_4⟩ := k37_openF hMe329
      have hv329_4 := hcc329 4 _ rfl
      rw [add_field _ _ 4 (by omega)] at hv329_4
      replace hv329_4 := Option.some.inj (hv329_4.symm.trans hx329_4)
      injection hv329_4 with hva_ hvn_ hvc_
      rw [hva_] at ge329_4
      rw [hvc_] at ul329_4
      have HL329_4 := Aside0.mk (show Kd.V (Kd.int .u8) 5 _ w.heap.size _ _ ((rd_T37 t318 x6_1).f4) from Kd.V_mk ul329_4 ge329_4)
      clear hva_ hvn_ hvc_ ge329_4 ul329_4
      clear hcc329 hce329
      have HR329_4 := Aside0.mk hi329_4
      have HC329_4 := Aside0.mk hl329_4
      clear hi329_4 hl329_4
      replace p329 := eq_true p329
      replace q329 := eq_true q329
      have p331 : 0 ≤ (x6_1 : Int) := of_decide_eq_true q7_
      have q331 : x6_1 < (t318.length : Int) := of_decide_eq_true q7_
      obtain ⟨ad331, A331_4, c331_4, e331, hx331_0, hx331_1, hx331_2, hx331_3, hx331_4, hl331_4, hi331_4⟩ := at_T37 (Kd.N_reads' HO_0.out).2.2 x6_1 p331 q331
      obtain rfl : ad329 = ad331 := (by injection e331)
      obtain ⟨ce331, hce331, hMe331, hcc331⟩ := Kd.N_get HO_0.out z37 x6_1 p331 (by first | exact q331 | exact of_decide_eq_true q7_ | (have e_ := (Kd.N_reads' HO_0.out).1; omega))
      obtain ⟨ua331_4, uc331_4, rfl, ul331_4, ge331_4⟩ := k37_openF hMe331
      have hv331_4 := hcc331 4 _ rfl
      rw [add_field _ _ 4 (by omega)] at hv331_4
      replace hv331_4 := Option.some.inj (hv331_4.symm.trans hx331_4)
      injection hv331_4 with hva_ hvn_ hvc_
      rw [hva_] at ge331_4
      rw [hvc_] at ul331_4
      have HL331_4 := Aside0.mk (show Kd.V (Kd.int .u8) 5 _ w.heap.size _ _ ((rd_T37 t318 x6_1).f4) from Kd.V_mk ul331_4 ge331_4)
      clear hva_ hvn_ hvc_ ge331_4 ul331_4
      clear hcc331 hce331
      have HR331_4 := Aside0.mk hi331_4
      have HC331_4 := Aside0.mk hl331_4
      clear hi331_4 hl331_4
      replace p331 := eq_true p331
      replace q331 := eq_true q331
      have ea_ := Option.some.inj (hx329_4.symm.trans hx331_4)
      injection ea_ with ea_ en_ ec_
      subst ea_
      subst ec_
      clear en_
      refine start_ (n := 11) (S := fun w' => w'.cell? (ad329.add ((x6_1).toNat * 5)) = some (.int .i64 ((rd_T37 t318 x6_1).f0)) ∧ w'.cell? ⟨(ad329.add ((x6_1).toNat * 5)).block, (ad329.add ((x6_1).toNat * 5)).off + 1, none⟩ = some (.string ((rd_T37 t318 x6_1).f1)) ∧ w'.cell? ⟨(ad329.add ((x6_1).toNat * 5)).block, (ad329.add ((x6_1).toNat * 5)).off + 2, none⟩ = some (.string ((rd_T37 t318 x6_1).f2)) ∧ w'.cell? ⟨(ad329.add ((x6_1).toNat * 5)).block, (ad329.add ((x6_1).toNat * 5)).off + 3, none⟩ = some (.int .i64 ((rd_T37 t318 x6_1).f3)) ∧ w'.cell? ⟨(ad329.add ((x6_1).toNat * 5)).block, (ad329.add ((x6_1).toNat * 5)).off + 4, none⟩ = some (.slice A329_4 ((rd_T37 t318 x6_1).f4).length c329_4) ∧ w'.cell? (ad329.add ((x6_1).toNat * 5)) = some (.int .i64 ((rd_T37 t318 x6_1).f0)) ∧ w'.cell? ⟨(ad329.add ((x6_1).toNat * 5)).block, (ad329.add ((x6_1).toNat * 5)).off + 1, none⟩ = some (.string ((rd_T37 t318 x6_1).f1)) ∧ w'.cell? ⟨(ad329.add ((x6_1).toNat * 5)).block, (ad329.add ((x6_1).toNat * 5)).off + 2, none⟩ = some (.string ((rd_T37 t318 x6_1).f2)) ∧ w'.cell? ⟨(ad329.add ((x6_1).toNat * 5)).block, (ad329.add ((x6_1).toNat * 5)).off + 3, none⟩ = some (.int .i64 ((rd_T37 t318 x6_1).f3)) ∧ w'.cell? ⟨(ad329.add ((x6_1).toNat * 5)).block, (ad329.add ((x6_1).toNat * 5)).off + 4, none⟩ = some (.slice A329_4 ((rd_T37 t318 x6_1).f4).length c329_4)) (ds := []) (bl_ 11 0) q37_ rfl rfl ⟨hx329_0, hx329_1, hx329_2, hx329_3, hx329_4, hx331_0, hx331_1, hx331_2, hx331_3, hx331_4⟩ (fun hHeld => ?_); refine with_tabW cambiumlaw19_StreamPuts.tab6 cambiumlaw19_StreamPuts.bits6 (fun HT_ HW_ => ?_)
      generalize wr.drew = w13 at HO_0 HB HL329_4 HL331_4 HR329_4 HR331_4 hx329_0 hx329_1 hx329_2 hx329_3 hx329_4 hx331_0 hx331_1 hx331_2 hx331_3 hx331_4 hHeld ⊢
      refine pure_ (i := 0) (N := some 20) (v := ?_) (a' := ?_) (bl_ 11 1) rfl rfl (any_of HT_.out q37_) (fun _ _ _ h => h) (Or.inl ⟨by rfl, ?_⟩) ?_ ?_
      rotate_left
      ·intro w'
       go_simp
       with_reducible rfl
      rotate_left
      ·simp only [Act.put, List.setIfInBounds_toArray, List.set_cons_zero, List.set_cons_succ, i64_w, i32_w]
       rfl
      refine pure_ (i := 1) (N := some 21) (v := ?_) (a' := ?_) (bl_ 11 3) rfl rfl (any_of HT_.out q37_) (fun _ _ _ h => h) (Or.inl ⟨by rfl, ?_⟩) ?_ ?_
      rotate_left
      ·intro w'
       go_simp
       with_reducible rfl
      rotate_left
      ·simp only [Act.put, List.setIfInBounds_toArray, List.set_cons_zero, List.set_cons_succ, i64_w, i32_w]
       rfl
      refine pure_ (i := 2) (N := some 22) (v := ?_) (a' := ?_) (bl_ 11 7) rfl rfl (any_of HT_.out q37_) (fun _ _ _ h => h) (Or.inl ⟨by rfl, ?_⟩) ?_ ?_
      rotate_left
      ·intro w'
       go_simp
       with_reducible rfl
      rotate_left
      ·simp only [Act.put, List.setIfInBounds_toArray, List.set_cons_zero, List.set_cons_succ, i64_w, i32_w]
       rfl
      refine pure_ (i := 5) (N := some 25) (v := ?_) (a' := ?_) (bl_ 11 39) rfl rfl (any_of HT_.out q37_) (fun _ _ _ h => h) (Or.inl ⟨by rfl, ?_⟩) ?_ ?_
      rotate_left
      ·intro w'
       go_simp
       with_reducible rfl
      rotate_left
      ·simp only [Act.put, List.setIfInBounds_toArray, List.set_cons_zero, List.set_cons_succ, i64_w, i32_w]
       rfl
      refine pure_ (i := 6) (N := some 26) (v := ?_) (a' := ?_) (bl_ 11 103) rfl rfl (any_of HT_.out q37_) (fun _ _ _ h => h) (Or.inl ⟨by rfl, ?_⟩) ?_ ?_
      rotate_left
      ·intro w'
       go_simp
       with_reducible rfl
      rotate_left
      ·simp only [Act.put, List.setIfInBounds_toArray, List.set_cons_zero, List.set_cons_succ, i64_w, i32_w]
       rfl
      refine pure_ (i := 7) (N := some 27) (v := ?_) (a' := ?_) (bl_ 11 231) rfl rfl (any_of HT_.out q37_) (fun _ _ _ h => h) (Or.inl ⟨by rfl, ?_⟩) ?_ ?_
      rotate_left
      ·intro w'
       go_simp
       with_reducible rfl
      rotate_left
      ·simp only [Act.put, List.setIfInBounds_toArray, List.set_cons_zero, List.set_cons_succ, i64_w, i32_w]
       rfl
      refine take_ (i := 3) (N := some 23) (v := ?_) (a' := ?_) (bl_ 11 239) rfl rfl (take_ofW HT_.out HW_.out q37_) (fun _ _ _ h => h) (Or.inl ⟨by rfl, ?_⟩) hHeld ?_ ?_
      rotate_left
      ·rintro w' ⟨s0, s1, s2, s3, s4, s5, s6, s7, s8, s9⟩
       go_simp
       with_reducible rfl
      rotate_left
      ·simp only [Act.put, List.setIfInBounds_toArray, List.set_cons_zero, List.set_cons_succ, i64_w, i32_w]
       rfl
      refine take_ (i := 8) (N := some 28) (v := ?_) (a' := ?_) (bl_ 11 495) rfl rfl (take_ofW HT_.out HW_.out q37_) (fun _ _ _ h => h) (Or.inl ⟨by rfl, ?_⟩) hHeld ?_ ?_
      rotate_left
      ·rintro w' ⟨s0, s1, s2, s3, s4, s5, s6, s7, s8, s9⟩
       go_simp
       with_reducible rfl
      rotate_left
      ·simp only [Act.put, List.setIfInBounds_toArray, List.set_cons_zero, List.set_cons_succ, i64_w, i32_w]
       rfl
      refine one_ (i := 4) (N := some 24) (bl_ 11 511) rfl rfl (one_of HT_.out q37_) (by decide) (fun K hK => ?_)
      refine goes_ Tryd.func17 q37_ rfl #[.agg #[.int .i64 ((rd_T37 t318 x6_1).f0), .string ((rd_T37 t318 x6_1).f1), .string ((rd_T37 t318 x6_1).f2), .int .i64 ((rd_T37 t318 x6_1).f3), .slice A329_4 ((rd_T37 t318 x6_1).f4).length c329_4]] (by rfl) rfl rfl q3_ ?_
      with_reducible refine (stream_Good.calls k1 ((rd_T37 t318 x6_1).f0) ((rd_T37 t318 x6_1).f1) ((rd_T37 t318 x6_1).f2) ((rd_T37 t318 x6_1).f3) _ _ ((rd_T37 t318 x6_1).f4) t330 _ ?side1 ?side2 A9.out).mono ?_
      (case side1 => repeat (first | exact q82_ | (with_reducible refine Kd.C_alloc ?_ _) | (with_reducible refine Kd.C_drewN ?_ _) | (with_reducible refine Kd.C_drew ?_)))
      (case side2 => exact HC329_4.out)
      rintro e w14 ⟨rfl, hb⟩
      have HS0_ := (hb.cell (World.block_lt_of_cell? _ _ (hHeld.1))).trans (hHeld.1)
      have HS1_ := (hb.cell (World.block_lt_of_cell? _ _ (hHeld.2.1))).trans (hHeld.2.1)
      have HS2_ := (hb.cell (World.block_lt_of_cell? _ _ (hHeld.2.2.1))).trans (hHeld.2.2.1)
      have HS3_ := (hb.cell (World.block_lt_of_cell? _ _ (hHeld.2.2.2.1))).trans (hHeld.2.2.2.1)
      have HS4_ := (hb.cell (World.block_lt_of_cell? _ _ (hHeld.2.2.2.2.1))).trans (hHeld.2.2.2.2.1)
      have HS5_ := (hb.cell (World.block_lt_of_cell? _ _ (hHeld.2.2.2.2.2.1))).trans (hHeld.2.2.2.2.2.1)
      have HS6_ := (hb.cell (World.block_lt_of_cell? _ _ (hHeld.2.2.2.2.2.2.1))).trans (hHeld.2.2.2.2.2.2.1)
      have HS7_ := (hb.cell (World.block_lt_of_cell? _ _ (hHeld.2.2.2.2.2.2.2.1))).trans (hHeld.2.2.2.2.2.2.2.1)
      have HS8_ := (hb.cell (World.block_lt_of_cell? _ _ (hHeld.2.2.2.2.2.2.2.2.1))).trans (hHeld.2.2.2.2.2.2.2.2.1)
      have HS9_ := (hb.cell (World.block_lt_of_cell? _ _ (hHeld.2.2.2.2.2.2.2.2.2))).trans (hHeld.2.2.2.2.2.2.2.2.2)
      refine ⟨_, rfl, ?_⟩
      have n0_ := Aside0.mk (Kd.N_below q79_ hb)
      have n1_ := Aside0.mk (Kd.V_below (by (with_reducible repeat (first | apply Kd.V_alloc | apply Kd.V_drewN | apply Kd.V_drew)); exact HL329_4.out) hb)
      have n2_ := Aside0.mk (Kd.V_below (by (with_reducible repeat (first | apply Kd.V_alloc | apply Kd.V_drewN | apply Kd.V_drew)); exact HL331_4.out) hb)
      have n3_ := Aside0.mk (Kd.C_below q82_ hb)
      have n4_ := Aside0.mk (Kd.C_below q83_ hb)
      have n5_ := Aside0.mk (below_step q0_ hb)
      clear HO_0
      clear HL329_4
      clear HL331_4
      clear HR329_4
      clear HR331_4
      clear HB
      have HO_0 := n0_
      have HL329_4 := n1_
      have HL331_4 := n2_
      have HR329_4 := n3_
      have HR331_4 := n4_
      have HB := n5_
      clear n0_ n1_ n2_ n3_ n4_ n5_
      (try clear hb)
      (try clear hb2)
      (try clear hk)
      (try clear hi)
      refine hK.out _ _ ⟨HS0_, HS1_, HS2_, HS3_, HS4_, HS5_, HS6_, HS7_, HS8_, HS9_⟩ (fun hHeld => ?_)
      clear hK K
      refine norm_ (a' := ?_) ?_ ?_
      rotate_left
      ·show Act.put _ (some 24) _ = _
       simp only [Act.put, List.setIfInBounds_toArray, List.set_cons_zero, List.set_cons_succ, i64_w, i32_w]
       rfl
      refine one_ (i := 9) (N := some 29) (bl_ 11 1023) rfl rfl (one_of HT_.out q37_) (by decide) (fun K hK => ?_)
      refine goes_ Tryd.func18 q37_ rfl #[.agg #[.int .i64 ((rd_T37 t318 x6_1).f0), .string ((rd_T37 t318 x6_1).f1), .string ((rd_T37 t318 x6_1).f2), .int .i64 ((rd_T37 t318 x6_1).f3), .slice A329_4 ((rd_T37 t318 x6_1).f4).length c329_4]] (by rfl) rfl rfl q3_ ?_
      with_reducible refine (cambiumref19_Good.calls k1 ((rd_T37 t318 x6_1).f0) ((rd_T37 t318 x6_1).f1) ((rd_T37 t318 x6_1).f2) ((rd_T37 t318 x6_1).f3) _ _ ((rd_T37 t318 x6_1).f4) t332 _ ?side1 ?side2 A10.out).mono ?_
      (case side1 => repeat (first | exact q83_ | (with_reducible refine Kd.C_alloc ?_ _) | (with_reducible refine Kd.C_drewN ?_ _) | (with_reducible refine Kd.C_drew ?_)))
      (case side2 => exact HC331_4.out)
      rintro e w15 ⟨rfl, hb⟩
      have HS0_ := (hb.cell (World.block_lt_of_cell? _ _ (hHeld.1))).trans (hHeld.1)
      have HS1_ := (hb.cell (World.block_lt_of_cell? _ _ (hHeld.2.1))).trans (hHeld.2.1)
      have HS2_ := (hb.cell (World.block_lt_of_cell? _ _ (hHeld.2.2.1))).trans (hHeld.2.2.1)
      have HS3_ := (hb.cell (World.block_lt_of_cell? _ _ (hHeld.2.2.2.1))).trans (hHeld.2.2.2.1)
      have HS4_ := (hb.cell (World.block_lt_of_cell? _ _ (hHeld.2.2.2.2.1))).trans (hHeld.2.2.2.2.1)
      have HS5_ := (hb.cell (World.block_lt_of_cell? _ _ (hHeld.2.2.2.2.2.1))).trans (hHeld.2.2.2.2.2.1)
      have HS6_ := (hb.cell (World.block_lt_of_cell? _ _ (hHeld.2.2.2.2.2.2.1))).trans (hHeld.2.2.2.2.2.2.1)
      have HS7_ := (hb.cell (World.block_lt_of_cell? _ _ (hHeld.2.2.2.2.2.2.2.1))).trans (hHeld.2.2.2.2.2.2.2.1)
      have HS8_ := (hb.cell (World.block_lt_of_cell? _ _ (hHeld.2.2.2.2.2.2.2.2.1))).trans (hHeld.2.2.2.2.2.2.2.2.1)
      have HS9_ := (hb.cell (World.block_lt_of_cell? _ _ (hHeld.2.2.2.2.2.2.2.2.2))).trans (hHeld.2.2.2.2.2.2.2.2.2)
      refine ⟨_, rfl, ?_⟩
      have n0_ := Aside0.mk (Kd.N_below q79_ hb)
      have n1_ := Aside0.mk (Kd.V_below (by (with_reducible repeat (first | apply Kd.V_alloc | apply Kd.V_drewN | apply Kd.V_drew)); exact HL329_4.out) hb)
      have n2_ := Aside0.mk (Kd.V_below (by (with_reducible repeat (first | apply Kd.V_alloc | apply Kd.V_drewN | apply Kd.V_drew)); exact HL331_4.out) hb)
      have n3_ := Aside0.mk (Kd.C_below q82_ hb)
      have n4_ := Aside0.mk (Kd.C_below q83_ hb)
      have n5_ := Aside0.mk (below_step q0_ hb)
      clear HO_0
      clear HL329_4
      clear HL331_4
      clear HR329_4
      clear HR331_4
      clear HB
      have HO_0 := n0_
      have HL329_4 := n1_
      have HL331_4 := n2_
      have HR329_4 := n3_
      have HR331_4 := n4_
      have HB := n5_
      clear n0_ n1_ n2_ n3_ n4_ n5_
      (try clear hb)
      (try clear hb2)
      (try clear hk)
      (try clear hi)
      refine hK.out _ _ ⟨HS0_, HS1_, HS2_, HS3_, HS4_, HS5_, HS6_, HS7_, HS8_, HS9_⟩ (fun hHeld => ?_)
      clear hK K
      refine norm_ (a' := ?_) ?_ ?_
      rotate_left
      ·show Act.put _ (some 29) _ = _
       simp only [Act.put, List.setIfInBounds_toArray, List.set_cons_zero, List.set_cons_succ, i64_w, i32_w]
       rfl
      refine pure_ (i := 10) (N := some 30) (v := ?_) (a' := ?_) (bl_ 11 2047) rfl rfl (any_of HT_.out q37_) (fun _ _ _ h => h) (Or.inl ⟨by rfl, ?_⟩) ?_ ?_
      rotate_left
      ·intro w'
       go_simp
       with_reducible rfl
      rotate_left
      ·simp only [Act.put, List.setIfInBounds_toArray, List.set_cons_zero, List.set_cons_succ, i64_w, i32_w]
       rfl
      refine done_ (done_of HT_.out q37_) ?_
      try go_wp2
      go_roundg k1
      case measure => have := HK1.out; omega
      case rel => exact ⟨(wrap64 (x6_1 + 1)), q4_, H', ⟨by have := HK1.out; omega⟩, ⟨q79_⟩, ⟨q0_⟩⟩
    ·rw [if_neg c8] at H
     exact absurd H (by simp)
   ·rw [if_neg c7] at H
    have c7b0 : decide (x6_1 < (t318.length : Int)) = false := decide_eq_false c7
    clear c7
    replace H := Option.bind_eq_some_iff.mp H
    obtain ⟨⟨t321, t322⟩, A160, H⟩ := H
    replace H : ((cambiumref19_Put.f k1 t318 a1).bind fun bt325 => (if t317 = true then (if (strOfNums t321).toList = (strOfNums bt325.1).toList then (some (t322 == bt325.2)) else (some false)) else (some false))) = some r := H
    have A16 := Aside0.mk A160
    clear A160
    replace H := Option.bind_eq_some_iff.mp H
    obtain ⟨⟨t325, t326⟩, A170, H⟩ := H
    replace H : (if t317 = true then (if (strOfNums t321).toList = (strOfNums t325).toList then (some (t322 == t326)) else (some false)) else (some false)) = some r := H
    have A17 := Aside0.mk A170
    clear A170
    by_cases c18 : t317 = true
    ·subst c18
     have H1 : (if (strOfNums t321).toList = (strOfNums t325).toList then (some (t322 == t326)) else (some false)) = some r := by rw [if_pos rfl] at H; exact H
     clear H
     have H := H1
     clear H1
     by_cases c19 : (strOfNums t321).toList = (strOfNums t325).toList
     ·rw [if_pos c19] at H
      have c19b0 : ((strOfNums t321).toList == (strOfNums t325).toList) = true := beq_iff_eq.mpr c19
      have c19b1 : ((strOfNums t321).toList != (strOfNums t325).toList) = false := bne_eq_false_iff_eq.mpr c19
      clear c19
      obtain rfl := Option.some.inj H
      obtain ⟨Ao20, co20, eo20⟩ := Kd.N_slice HO_0.out
      subst eo20
      go_wp2_with (first | ((with_reducible refine gate_callee (f := 19) rfl ?_); refine goesL_ (some 34) rfl rfl Tryd.func19 q37_ rfl #[.slice Ao20 t318.length co20, .bool a1] rfl q3_ ?_; (with_reducible refine (stream_Put.calls k1 _ _ t318 a1 t321 t322 _ ?side1 ?side2 A16.out).mono ?_); (case side1 => repeat (first | exact (Kd.N_reads' HO_0.out).2.2 | (with_reducible refine Kd.C_alloc ?_ _) | (with_reducible refine Kd.C_drewN ?_ _) | (with_reducible refine Kd.C_drew ?_))); (case side2 => exact (Kd.N_reads' HO_0.out).2.1); rintro e w21 ⟨v323, rfl, ho0, hb⟩; refine ⟨_, rfl, ?_⟩; have n0_ := Aside0.mk (Kd.N_elder' q79_ (Kd.R_base ho0) hb); have n1_ := Aside0.mk (Kd.R_lower ho0 (below_size q0_)); have n2_ := Aside0.mk (below_step q0_ hb); clear HO_0; clear HB; have HO_0 := n0_; have HO324 := n1_; have HB := n2_; clear n0_ n1_ n2_; (try clear hb); (try clear hb2); (try clear hk); (try clear hi); (try clear ho0)) | ((with_reducible refine gate_callee (f := 20) rfl ?_); refine goesL_ (some 40) rfl rfl Tryd.func20 q37_ rfl #[.slice Ao20 t318.length co20, .bool a1] rfl q3_ ?_; (with_reducible refine (cambiumref19_Put.calls k1 _ _ t318 a1 t325 t326 _ ?side1 ?side2 A17.out).mono ?_); (case side1 => repeat (first | exact (Kd.N_reads' HO_0.out).2.2 | (with_reducible refine Kd.C_alloc ?_ _) | (with_reducible refine Kd.C_drewN ?_ _) | (with_reducible refine Kd.C_drew ?_))); (case side2 => exact (Kd.N_reads' HO_0.out).2.1); rintro e w22 ⟨v327, rfl, ho0, hb⟩; refine ⟨_, rfl, ?_⟩; have n0_ := Aside0.mk (Kd.N_elder' q79_ (Kd.R_base ho0) hb); have n1_ := Aside0.mk (Kd.R_elder' (by (with_reducible repeat (first | apply Kd.R_alloc | apply Kd.R_drewN | apply Kd.R_drew)); exact HO324.out) (Kd.R_base ho0) hb); have n2_ := Aside0.mk (Kd.R_lower (Kd.R_new' ho0 (Kd.R_lt (by (with_reducible repeat (first | apply Kd.R_alloc | apply Kd.R_drewN | apply Kd.R_drew)); exact HO324.out))) (below_size q0_)); have n3_ := Aside0.mk (below_step q0_ hb); clear HO_0; clear HO324; clear HB; have HO_0 := n0_; have HO324 := n1_; have HO328 := n2_; have HB := n3_; clear n0_ n1_ n2_ n3_; (try clear hb); (try clear hb2); (try clear hk); (try clear hi); (try clear ho0); (first | (have hcv23 := own_string (P := Tryd.prog) Tryd.underlying35 Tryd.underlying5 Tryd.underlying9 (Kd.own_of_R HO324.out); have hcv23n := fun n_ : Nat => own_string (P := Tryd.prog) Tryd.underlying35 Tryd.underlying5 Tryd.underlying9 (Kd.own_of_R (Kd.R_drewN HO324.out n_))) | (have hcv23 := fun c_ : Nat => Kd.C_string (c := c_) (P := Tryd.prog) Tryd.underlying35 Tryd.underlying5 Tryd.underlying9 (Kd.V_reads' HO324.out).2.2; have hcv23n := fun (c_ n_ : Nat) => Kd.C_string (c := c_) (P := Tryd.prog) Tryd.underlying35 Tryd.underlying5 Tryd.underlying9 (Kd.C_drewN (Kd.V_reads' HO324.out).2.2 n_)) | (have hcv23 := Own.V_string (P := Tryd.prog) Tryd.underlying35 Tryd.underlying5 Tryd.underlying9 HO324.out; have hcv23n := fun (n_ : Nat) => Own.V_string (P := Tryd.prog) Tryd.underlying35 Tryd.underlying5 Tryd.underlying9 (Kd.V_drewN HO324.out n_))); (first | (have hcv24 := own_string (P := Tryd.prog) Tryd.underlying35 Tryd.underlying5 Tryd.underlying9 (Kd.own_of_R HO328.out); have hcv24n := fun n_ : Nat => own_string (P := Tryd.prog) Tryd.underlying35 Tryd.underlying5 Tryd.underlying9 (Kd.own_of_R (Kd.R_drewN HO328.out n_))) | (have hcv24 := fun c_ : Nat => Kd.C_string (c := c_) (P := Tryd.prog) Tryd.underlying35 Tryd.underlying5 Tryd.underlying9 (Kd.V_reads' HO328.out).2.2; have hcv24n := fun (c_ n_ : Nat) => Kd.C_string (c := c_) (P := Tryd.prog) Tryd.underlying35 Tryd.underlying5 Tryd.underlying9 (Kd.C_drewN (Kd.V_reads' HO328.out).2.2 n_)) | (have hcv24 := Own.V_string (P := Tryd.prog) Tryd.underlying35 Tryd.underlying5 Tryd.underlying9 HO328.out; have hcv24n := fun (n_ : Nat) => Own.V_string (P := Tryd.prog) Tryd.underlying35 Tryd.underlying5 Tryd.underlying9 (Kd.V_drewN HO328.out n_)))))
      go_ret
      exact ⟨q10_, by repeat (first | (with_reducible first | exact HB.out | apply below_alloc | apply pw_below_drewN | apply below_drew1) | exact HB.out)⟩
     ·rw [if_neg c19] at H
      have c19b0 : ((strOfNums t321).toList == (strOfNums t325).toList) = false := beq_eq_false_iff_ne.mpr c19
      have c19b1 : ((strOfNums t321).toList != (strOfNums t325).toList) = true := bne_iff_ne.mpr c19
      exact absurd (Option.some.inj H) (by rw [hr_.out]; decide)
    ·replace c18 := Bool.eq_false_iff.mpr c18
     subst c18
     have H1 : (some false) = some r := by rw [if_neg (show ¬ (false = true) by decide)] at H; exact H
     clear H
     have H := H1
     clear H1
     exact absurd (Option.some.inj H) (by rw [hr_.out]; decide)

/-- THE ONE PURE STATEMENT of cambiumlaw19_StreamPuts: yours. -/
def cambiumlaw19_StreamPuts.Pure : Prop := ∀ (l0 : List (S37)) (a1 : Bool), (l0.length ≤ maxLen ∧ ∀ y0_ ∈ l0, ((Lit.int .i64 y0_.f0).wf = true ∧ y0_.f1.size ≤ maxLen ∧ y0_.f2.size ≤ maxLen ∧ (Lit.int .i64 y0_.f3).wf = true ∧ (y0_.f4.length ≤ maxLen ∧ ∀ y1_ ∈ y0_.f4, (Lit.int .u8 y1_).wf = true))) → ∃ k, cambiumlaw19_StreamPuts.f k l0 a1 = some true
theorem cambiumlaw19_StreamPuts.walk (P : cambiumlaw19_StreamPuts.Pure) (A0 : Option Addr) (c0 : Nat) (l0 : List (S37)) (a1 : Bool) (w : World) (hr0 : Kd.C k37 w A0 l0.length l0) (hc0 : l0.length ≤ c0) (w0 : (l0.length ≤ maxLen ∧ ∀ y0_ ∈ l0, ((Lit.int .i64 y0_.f0).wf = true ∧ y0_.f1.size ≤ maxLen ∧ y0_.f2.size ≤ maxLen ∧ (Lit.int .i64 y0_.f3).wf = true ∧ (y0_.f4.length ≤ maxLen ∧ ∀ y1_ ∈ y0_.f4, (Lit.int .u8 y1_).wf = true)))) :
  Calls Tryd.prog 5 #[.slice A0 l0.length c0, .bool a1] w fun e w' => e = .returned (.bool true) ∧ Below w.heap.size w w' := by
 obtain ⟨k, h⟩ := P l0 a1 w0
 refine (cambiumlaw19_StreamPuts.calls k A0 c0 l0 a1 true w hr0 hc0 ⟨rfl⟩ h).mono ?_
 rintro e w' ⟨rfl, hd⟩
 exact ⟨rfl, hd⟩

end Go.Proofs.YtgklipfeheohkaaDoor.P
