/- Functions and contracts, written by a program (mkprint.py, a wrapper of ours around the print); texts between GIVEN marks are ours. -/
import Derived.Test.YtgklipfeheohkaaDoorPx0
namespace Go.Proofs.YtgklipfeheohkaaDoor.P
open Go.RowKit Go.Proofs.YtgklipfeheohkaaDoorW.PrintWords Go.Proofs.YtgklipfeheohkaaDoorW.PrintLast Go.Proofs.YtgklipfeheohkaaDoorW.PrintMore
attribute [local go_sem] max2_int min2_int max_two min_two max_three min_three max_four min_four   -- for this text's walks alone
set_option linter.unusedVariables false
set_option linter.unusedSimpArgs false
theorem q67_ {P : Prop} (h : P := by (with_reducible repeat (first | apply Kd.V_alloc | apply Kd.V_drewN | apply Kd.V_drew)); exact HO417.out) : P := h
theorem q68_ {P : Prop} (h : P := by (with_reducible repeat (first | apply Kd.V_alloc | apply Kd.V_drewN | apply Kd.V_drew)); exact HO426.out) : P := h
theorem q69_ {P : Prop} (h : P := by (with_reducible repeat (first | apply Kd.V_alloc | apply Kd.V_drewN | apply Kd.V_drew)); exact HO437.out) : P := h
theorem q70_ {P : Prop} (h : P := by (with_reducible repeat (first | apply Kd.R_alloc | apply Kd.R_drewN | apply Kd.R_drew)); exact HO432.out) : P := h
theorem q78_ {P : Prop} (h : P := by (with_reducible repeat (first | apply Kd.R_alloc | apply Kd.R_drewN | apply Kd.R_drew)); exact HO429.out) : P := h

/-! ### cambiumref01_Take: function 39 -/
mutual
def cambiumref01_Take.j0 : Nat → List Int → Int → Bool → Option (Int × List Int × Int)
 | 0, _, _, _ => none
 | k + 1, x0, x1, x14 => if x14 = true then (some (0, ([] : List Int), 1)) else (if (x0.length : Int) < x1 then (some (0, ([] : List Int), 2)) else (cambiumref01_Take.l0 k x0 x1 0 0))
def cambiumref01_Take.l0 : Nat → List Int → Int → Int → Int → Option (Int × List Int × Int)
 | 0, _, _, _, _ => none
 | k + 1, x0, x1, x7, x8 => if x8 < x1 then (if 0 ≤ x8 then (if x8 < (x0.length : Int) then (cambiumref01_Take.l0 k x0 x1 (wrap64 ((wrap64 (256 * x7)) + (wrap64 (rd x0 x8)))) (wrap64 (x8 + 1))) else (none)) else (none)) else ((some (([] : List Int) : List Int)).bind fun y407 => (if 0 ≤ x1 then (if x1 ≤ (x0.length : Int) then (if y407.length + (x0.drop (x1 : Int).toNat).length < 140737488355328 then (some (x7, (y407 ++ (x0.drop (x1 : Int).toNat)), 0)) else (none)) else (none)) else (none)))
end
def cambiumref01_Take.f (k : Nat) (l0 : List Int) (a1 : Int) : Option (Int × List Int × Int) := if a1 < 1 then (cambiumref01_Take.j0 k l0 a1 true) else (cambiumref01_Take.j0 k l0 a1 (decide (a1 > 7)))
theorem cambiumref01_Take.mono_l : ∀ k, (∀ y0 y1 y2, LeO (cambiumref01_Take.j0 k y0 y1 y2) (cambiumref01_Take.j0 (k + 1) y0 y1 y2)) ∧ (∀ y0 y1 y2 y3, LeO (cambiumref01_Take.l0 k y0 y1 y2 y3) (cambiumref01_Take.l0 (k + 1) y0 y1 y2 y3))
 | 0 => ⟨fun _ _ _ r h => by simp [cambiumref01_Take.j0] at h, fun _ _ _ _ r h => by simp [cambiumref01_Take.l0] at h⟩
 | k + 1 => by
  obtain ⟨ih0, ih1⟩ := cambiumref01_Take.mono_l k
  refine ⟨?_, ?_⟩
  ·intro y0 y1 y2
   unfold cambiumref01_Take.j0
   repeat' first
   | (with_reducible exact ih0 _ _ _)
   | (with_reducible exact ih1 _ _ _ _)
   | (with_reducible exact LeO.refl _)
   | (with_reducible exact LeO.none _)
   | (with_reducible refine LeO.ite ?_ ?_)
   | (with_reducible refine LeO.bind ?_ (fun _ => ?_))
   | exact ih0 _ _ _
   | exact ih1 _ _ _ _
   | exact LeO.none _
   | refine LeO.ite ?_ ?_
   | refine LeO.bind ?_ (fun _ => ?_)
  ·intro y0 y1 y2 y3
   unfold cambiumref01_Take.l0
   repeat' first
   | (with_reducible exact ih0 _ _ _)
   | (with_reducible exact ih1 _ _ _ _)
   | (with_reducible exact LeO.refl _)
   | (with_reducible exact LeO.none _)
   | (with_reducible refine LeO.ite ?_ ?_)
   | (with_reducible refine LeO.bind ?_ (fun _ => ?_))
   | exact ih0 _ _ _
   | exact ih1 _ _ _ _
   | exact LeO.none _
   | refine LeO.ite ?_ ?_
   | refine LeO.bind ?_ (fun _ => ?_)
theorem cambiumref01_Take.mono : ∀ a0 a1 k, LeO (cambiumref01_Take.f k a0 a1) (cambiumref01_Take.f (k + 1) a0 a1) := by
 intro a0 a1 k
 obtain ⟨ih0, ih1⟩ := cambiumref01_Take.mono_l k
 unfold cambiumref01_Take.f
 repeat' first
   | (with_reducible exact ih0 _ _ _)
   | (with_reducible exact ih1 _ _ _ _)
   | (with_reducible exact LeO.refl _)
   | (with_reducible exact LeO.none _)
   | (with_reducible refine LeO.ite ?_ ?_)
   | (with_reducible refine LeO.bind ?_ (fun _ => ?_))
   | exact ih0 _ _ _
   | exact ih1 _ _ _ _
   | exact LeO.none _
   | refine LeO.ite ?_ ?_
   | refine LeO.bind ?_ (fun _ => ?_)
set_option maxHeartbeats 8000000 in
set_option maxRecDepth 100000 in
theorem cambiumref01_Take.callsR (k : Nat) (A0 : Option Addr) (c0 : Nat) (l0 : List Int) (a1 : Int) (r1 : Int) (r2 : List Int) (r3 : Int) (w : World) (hr0 : Kd.C (Kd.int .u8) w A0 l0.length l0) (hc0 : l0.length ≤ c0) (h : cambiumref01_Take.f k l0 a1 = some (r1, r2, r3)) :
  Calls Tryd.prog 39 #[.slice A0 l0.length c0, .int .i64 a1] w fun e w' => ∃ v1_ : Value, e = .returned (.tuple #[.int .i64 r1, v1_, .int .i64 r3]) ∧ Kd.R (Kd.int .u8) 5 w' w.heap.size (fun _ => True) v1_ r2 ∧ Below w.heap.size w w' := by
 have HR0 := Aside0.mk hr0
 have HC0 := Aside0.mk hc0
 clear hr0 hc0
 have HB := Aside0.mk (Below.refl w.heap.size w)
 have H : (if a1 < 1 then (cambiumref01_Take.j0 k l0 a1 true) else (cambiumref01_Take.j0 k l0 a1 (decide (a1 > 7)))) = some (r1, r2, r3) := h
 clear h
 have HC3 := Aside0.mk H
 clear H
 go_enter Tryd.func39, Tryd.ntmps39
 go_upto_region 1 with (fail)
 go_cut [14] (fun v14 wc => ∃ (kq : Nat) (x14_2 : Bool), v14 = .bool x14_2 ∧ Aside0 (cambiumref01_Take.j0 kq l0 a1 x14_2 = some (r1, r2, r3)) ∧ Aside0 (kq ≤ k) ∧ Aside0 (Below w.heap.size w wc))
 case first =>
  have H := HC3.out
  clear HC3
  by_cases c4 : a1 < 1
  ·rw [if_pos c4] at H
   have c4b0 : decide (a1 < 1) = true := decide_eq_true c4
   clear c4
   (first | rw [c4b0] | (simp only [i64_w, i32_w]; rw [c4b0]) | skip)
   have H' := Aside0.mk H
   clear H
   go_wp2
   go_meet
   case rel => exact ⟨_, (true), q4_, H', ⟨q64_⟩, ⟨q0_⟩⟩
  ·rw [if_neg c4] at H
   have c4b0 : decide (a1 < 1) = false := decide_eq_false c4
   clear c4
   (first | rw [c4b0] | (simp only [i64_w, i32_w]; rw [c4b0]) | skip)
   have H' := Aside0.mk H
   clear H
   go_wp2
   go_meet
   case rel => exact ⟨_, (decide (a1 > 7)), q4_, H', ⟨q64_⟩, ⟨q0_⟩⟩
 case rest =>
  clear HC3
  try clear p2
  try clear c3
  try clear c4
  try clear c4b0
  obtain ⟨kq, x14_2, rfl, HA, HJ2, HB⟩ := hcut
  cases kq with
  | zero => exact absurd (show none = some _ from HA.out) (by simp)
  | succ kj2 =>
   have H := HA.out
   clear HA
   simp only [cambiumref01_Take.j0] at H
   by_cases c5 : x14_2 = true
   ·subst c5
    have H1 : (some (0, ([] : List Int), 1)) = some (r1, r2, r3) := by rw [if_pos rfl] at H; exact H
    clear H
    have H := H1
    clear H1
    simp only [Option.some.injEq, Prod.mk.injEq] at H
    obtain ⟨rfl, rfl, rfl⟩ := H
    go_wp2
    go_ret3
    exact ⟨_, by first | rfl | (simp [errW_none, errW_some] <;> rfl) | (simp [*, errW_none, errW_some] <;> rfl), by first | exact Kd.R_nil _ _ _ _ _ | exact Kd.N_nil _ _ _ _ _ | exact Kd.V_nil _ _ _ _ _ | exact Kd.Q_nil _ _ _ _ _ | exact Kd.S_nil _ _ _ _ _, by repeat (first | (with_reducible first | exact HB.out | apply below_alloc | apply pw_below_drewN | apply below_drew1) | exact HB.out)⟩
   ·replace c5 := Bool.eq_false_iff.mpr c5
    subst c5
    have H1 : (if (l0.length : Int) < a1 then (some (0, ([] : List Int), 2)) else (cambiumref01_Take.l0 kj2 l0 a1 0 0)) = some (r1, r2, r3) := by rw [if_neg (show ¬ (false = true) by decide)] at H; exact H
    clear H
    have H := H1
    clear H1
    by_cases c6 : (l0.length : Int) < a1
    ·rw [if_pos c6] at H
     have c6b0 : decide ((l0.length : Int) < a1) = true := decide_eq_true c6
     clear c6
     simp only [Option.some.injEq, Prod.mk.injEq] at H
     obtain ⟨rfl, rfl, rfl⟩ := H
     go_wp2
     go_ret3
     exact ⟨_, by first | rfl | (simp [errW_none, errW_some] <;> rfl) | (simp [*, errW_none, errW_some] <;> rfl), by first | exact Kd.R_nil _ _ _ _ _ | exact Kd.N_nil _ _ _ _ _ | exact Kd.V_nil _ _ _ _ _ | exact Kd.Q_nil _ _ _ _ _ | exact Kd.S_nil _ _ _ _ _, by repeat (first | (with_reducible first | exact HB.out | apply below_alloc | apply pw_below_drewN | apply below_drew1) | exact HB.out)⟩
    ·rw [if_neg c6] at H
     have c6b0 : decide ((l0.length : Int) < a1) = false := decide_eq_false c6
     clear c6
     have H' := Aside0.mk H
     clear H
     go_wp2
     go_loopg [7, 8] kj2 (fun kq v7 v8 w' => ∃ (x7_2 : Int) (x8_2 : Int), v7 = .int .i64 x7_2 ∧ v8 = .int .i64 x8_2 ∧ Aside0 (cambiumref01_Take.l0 kq l0 a1 x7_2 x8_2 = some (r1, r2, r3)) ∧ Aside0 (kq ≤ kj2) ∧ Aside0 (Below w.heap.size w w'))
     case atStart => exact ⟨(0), (0), q4_, q4_, H', ⟨Nat.le_refl _⟩, ⟨q0_⟩⟩
     case round =>
      clear H'
      try clear p2
      try clear c3
      try clear c4
      try clear c4b0
      try clear c5
      try clear c6
      try clear c6b0
      try clear p2
      obtain ⟨x7_2, x8_2, rfl, rfl, HA, HK2, HB⟩ := hrel
      cases gk with
      | zero => exact absurd (show none = some _ from HA.out) (by simp)
      | succ k2 =>
       have H := HA.out
       clear HA
       simp only [cambiumref01_Take.l0] at H
       by_cases c7 : x8_2 < a1
       ·rw [if_pos c7] at H
        have c7b0 : decide (x8_2 < a1) = true := decide_eq_true c7
        clear c7
        by_cases c8 : 0 ≤ x8_2
        ·rw [if_pos c8] at H
         have c8b0 : decide (0 ≤ x8_2) = true := decide_eq_true c8
         clear c8
         by_cases c9 : x8_2 < (l0.length : Int)
         ·rw [if_pos c9] at H
          have c9b0 : decide (x8_2 < (l0.length : Int)) = true := decide_eq_true c9
          clear c9
          have H' := Aside0.mk H
          clear H
          have p406 : 0 ≤ (x8_2 : Int) := of_decide_eq_true q7_
          have q406 : x8_2 < (l0.length : Int) := of_decide_eq_true q7_
          obtain ⟨ad406, e406, hx406_0⟩ := Kd.at_int HR0.out x8_2 p406 q406
          cases e406
          replace hx406_0 := (HB.out.cell (World.block_lt_of_cell? w _ hx406_0)).trans hx406_0
          replace p406 := eq_true p406
          replace q406 := eq_true q406
          go_wp2
          go_roundg k2
          case measure => have := HJ2.out; have := HK2.out; omega
          case rel => exact ⟨(wrap64 ((wrap64 (256 * x7_2)) + (wrap64 (rd l0 x8_2)))), (wrap64 (x8_2 + 1)), q4_, q4_, H', ⟨by have := HJ2.out; have := HK2.out; omega⟩, ⟨q0_⟩⟩
         ·rw [if_neg c9] at H
          exact absurd H (by simp)
        ·rw [if_neg c8] at H
         exact absurd H (by simp)
       ·rw [if_neg c7] at H
        have c7b0 : decide (x8_2 < a1) = false := decide_eq_false c7
        clear c7
        obtain ⟨y407, hy407⟩ : ∃ y_ : List Int, y_ = (([] : List Int)) := ⟨_, rfl⟩
        replace H : (if 0 ≤ a1 then (if a1 ≤ (l0.length : Int) then (if y407.length + (l0.drop (a1 : Int).toNat).length < 140737488355328 then (some (x7_2, (y407 ++ (l0.drop (a1 : Int).toNat)), 0)) else (none)) else (none)) else (none)) = some (r1, r2, r3) := by first | (rw [hy407]; with_reducible exact H) | (have H2_ := (Option.bind_some _ _).symm.trans H; rw [hy407]; with_reducible exact H2_) | (have H2_ := (Option.bind_some _ _).symm.trans H; with_reducible exact H2_) | with_reducible exact H | (rw [hy407]; exact H) | exact H
        have Ny407 := Aside0.mk hy407
        clear hy407
        by_cases c10 : 0 ≤ a1
        ·rw [if_pos c10] at H
         have c10b0 := eq_true c10
         have c10b1 : decide (0 ≤ a1) = true := decide_eq_true c10
         clear c10
         by_cases c11 : a1 ≤ (l0.length : Int)
         ·rw [if_pos c11] at H
          have c11b0 := eq_true c11
          have c11b1 : decide (a1 ≤ (l0.length : Int)) = true := decide_eq_true c11
          clear c11
          by_cases c12 : y407.length + (l0.drop (a1 : Int).toNat).length < 140737488355328
          ·rw [if_pos c12] at H
           have LMc12 := Aside0.mk c12
           clear c12
           obtain ⟨y411, hy411⟩ : ∃ y_ : List Int, y_ = (y407 ++ (l0.drop (a1 : Int).toNat)) := ⟨_, rfl⟩
           replace H : (some (x7_2, y411, 0)) = some (r1, r2, r3) := by first | (rw [hy411]; with_reducible exact H) | (have H2_ := (Option.bind_some _ _).symm.trans H; rw [hy411]; with_reducible exact H2_) | (have H2_ := (Option.bind_some _ _).symm.trans H; with_reducible exact H2_) | with_reducible exact H | (rw [hy411]; exact H) | exact H
           have Ny411 := Aside0.mk hy411
           clear hy411
           simp only [Option.some.injEq, Prod.mk.injEq] at H
           obtain ⟨rfl, rfl, rfl⟩ := H
           go_wp2_with (first | ((with_reducible refine gate_dst (N := 33) rfl ?_); refine Kd.R_lit (Kd.int .u8) _ 5 ?hg (N := 33) ?hd (xs := ([] : List Int)) (inner := []) (ok := fun _ => True) (okp := fun _ => True) ?hr ?hp (fun _ hk => hk) trivial (Below.refl _ _) (Nat.le_refl _) (by simp) ?_; (case hd => rfl); (case hg => rfl); (case hr => first | (go_simp; done) | (go_simp; rfl)); (case hp => exact (Reps.none _ _)); intro v408 w13 ho14 hb hg_ hnew_; clear hg_ hnew_; (first | rw [← Ny407.out] at ho14 | (simp only [Int.reduceToNat] at ho14; rw [← Ny407.out] at ho14)); have n0_ := Aside0.mk (Kd.R_lower ho14 (below_size q0_)); have n1_ := Aside0.mk (below_step q0_ hb); clear HB; have HO409 := n0_; have HB := n1_; clear n0_ n1_; clear hb ho14; obtain ⟨i015, hi015, _, hsz15, _⟩ := info_parts info5; obtain ⟨A15, hcut15, hA15, hC15⟩ := print_drop_of (P := Tryd.prog) (Value.int .u8) 0 35 5 .i64 Tryd.underlying35 hi015 hsz15 A0 c0 l0 a1 (of_decide_eq_true q7_) (of_decide_eq_true q7_) HC0.out; have HR410 := Aside0.mk (Kd.C_of_reads (h1 := fun _ => rfl) (hA15 _ (Kd.reads_of_C HR0.out))); have HC410 := Aside0.mk hC15; clear hA15 hC15 hi015 hsz15) | ((with_reducible refine gate_builtin (b := .append) (xs := #[.tmp 33, .tmp 36]) rfl ?_); at_builtin; refine Kd.R_append_rows (Kd.int .u8) (w0 := w) w.heap.size rfl (.tmp 33) (.tmp 36) 35 5 (.int .u8 0) 1 rfl Tryd.underlying35 info5 rfl (by decide) (by omega) v408 y407 (l0.drop (a1 : Int).toNat) _ _ _ (fun _ => True) (fun _ => False) rfl rfl ?aO ?aR (fun _ _ h => h) (fun _ h => h.elim) ?aF ?aB ?aS ?aL ?_; (case aR => first | (rw [← List.length_take]; repeat (first | exact (Kd.C_below HR410.out HB.out) | (with_reducible refine Kd.C_alloc ?_ _) | (with_reducible refine Kd.C_drewN ?_ _) | (with_reducible refine Kd.C_drew ?_))) | (rw [← show (l0.drop (a1 : Int).toNat).length = (l0.length - a1.toNat) from List.length_drop]; repeat (first | exact (Kd.C_below HR410.out HB.out) | (with_reducible refine Kd.C_alloc ?_ _) | (with_reducible refine Kd.C_drewN ?_ _) | (with_reducible refine Kd.C_drew ?_))) | (repeat (first | exact (Kd.C_below HR410.out HB.out) | (with_reducible refine Kd.C_alloc ?_ _) | (with_reducible refine Kd.C_drewN ?_ _) | (with_reducible refine Kd.C_drew ?_)))); (case aB => exact q0_); (case aF => exact (fun _ _ => trivial)); (case aO => exact (by (with_reducible repeat (first | apply Kd.R_alloc | apply Kd.R_drewN | apply Kd.R_drew)); exact HO409.out)); (case aS => exact (below_size q0_)); (case aL => have := LMc12.out; have hlx_ := (show (l0.drop (a1 : Int).toNat).length = (l0.length - a1.toNat) from List.length_drop); omega); intro v412 w16 ho hb hg hat; rw [← Ny411.out] at ho; have n0_ := Aside0.mk (hb); have n1_ := Aside0.mk (ho); clear HB; clear HO409; have HB := n0_; have HO413 := n1_; clear n0_ n1_; clear ho hb hg hat))
           go_ret3
           exact ⟨_, by first | rfl | (simp [errW_none, errW_some] <;> rfl) | (simp [*, errW_none, errW_some] <;> rfl), by (with_reducible repeat (first | apply Kd.R_alloc | apply Kd.R_drewN | apply Kd.R_drew)); exact HO413.out, by repeat (first | (with_reducible first | exact HB.out | apply below_alloc | apply pw_below_drewN | apply below_drew1) | exact HB.out)⟩
          ·rw [if_neg c12] at H
           exact absurd H (by simp)
         ·rw [if_neg c11] at H
          exact absurd H (by simp)
        ·rw [if_neg c10] at H
         exact absurd H (by simp)

theorem cambiumref01_Take.calls (k : Nat) (A0 : Option Addr) (c0 : Nat) (l0 : List Int) (a1 : Int) (r1 : Int) (r2 : List Int) (r3 : Int) (w : World) (hr0 : Kd.C (Kd.int .u8) w A0 l0.length l0) (hc0 : l0.length ≤ c0) (h : cambiumref01_Take.f k l0 a1 = some (r1, r2, r3)) :
  Calls Tryd.prog 39 #[.slice A0 l0.length c0, .int .i64 a1] w fun e w' => ∃ v1_ : Value, e = .returned (.tuple #[.int .i64 r1, v1_, .int .i64 r3]) ∧ Kd.V (Kd.int .u8) 5 w' w.heap.size (fun k_ => (w.heap.size ≤ k_)) v1_ r2 ∧ Below w.heap.size w w' := by
 refine (cambiumref01_Take.callsR k A0 c0 l0 a1 r1 r2 r3 w hr0 hc0 h).mono ?_
 rintro e w' ⟨v_, rfl, ho, hb⟩
 exact ⟨v_, rfl, Kd.V_mono (Kd.R_V (Kd.R_bound ho)) (fun k_ hk => hk.2.1), hb⟩

/-! ### cambiumref01_take: function 54 -/
def cambiumref01_take.f (k : Nat) (l0 : List Int) (a1 : Int) : Option (List Int × List Int × Int) := (cambiumref01_Take.f k l0 a1).bind fun bt414 => (if bt414.2.2 = 0 then (if (bt414.2.1.length : Int) < bt414.1 then (some (([] : List Int), ([] : List Int), 2)) else ((some (([] : List Int) : List Int)).bind fun y419 => (if 0 ≤ bt414.1 then (if bt414.1 ≤ (bt414.2.1.length : Int) then ((some (bt414.2.1.take (bt414.1 : Int).toNat : List Int)).bind fun y422 => (if y419.length + y422.length < 140737488355328 then ((some (([] : List Int) : List Int)).bind fun y430 => ((some (bt414.2.1.drop (bt414.1 : Int).toNat : List Int)).bind fun y433 => (if y430.length + y433.length < 140737488355328 then (some ((y419 ++ y422), (y430 ++ y433), 0)) else (none)))) else (none))) else (none)) else (none)))) else (some (([] : List Int), ([] : List Int), 2)))
theorem cambiumref01_take.mono : ∀ a0 a1 k, LeO (cambiumref01_take.f k a0 a1) (cambiumref01_take.f (k + 1) a0 a1) := by
 intro a0 a1 k
 unfold cambiumref01_take.f
 repeat' first
   | (with_reducible exact cambiumref01_Take.mono _ _ _)
   | (with_reducible exact LeO.refl _)
   | (with_reducible exact LeO.none _)
   | (with_reducible refine LeO.ite ?_ ?_)
   | (with_reducible refine LeO.bind ?_ (fun _ => ?_))
   | exact cambiumref01_Take.mono _ _ _
   | exact LeO.none _
   | refine LeO.ite ?_ ?_
   | refine LeO.bind ?_ (fun _ => ?_)
def cambiumref01_take.T4 : Bool × List (List Nat × List Nat) := (true, [([], []), ([], []), ([], []), ([1, 2], [1, 2]), ([0, 3], [0, 3]), ([], []), ([], []), ([], []), ([6, 7], [6, 7]), ([5, 8, 4], [5, 8]), ([4, 9, 0, 1, 2, 3, 4], [4]), ([9, 10, 0, 1, 2, 3, 4, 5, 6, 7, 8, 9, 10], [9]), ([11, 0, 1, 2, 3, 4, 5, 6, 7, 8, 9, 10, 11], [])])
def cambiumref01_take.B4 : List Nat := [0, 0, 0, 6, 15, 0, 0, 0, 192, 511, 1023, 2047, 4095]
theorem cambiumref01_take.tab4 : rtab .any (opsOf Tryd.f54 4) = cambiumref01_take.T4 := by kernel_rfl
theorem cambiumref01_take.bits4 : waitsOk cambiumref01_take.T4.2 cambiumref01_take.B4 = true := by kernel_rfl
set_option maxHeartbeats 8000000 in
set_option maxRecDepth 100000 in
theorem cambiumref01_take.calls (k : Nat) (A0 : Option Addr) (c0 : Nat) (l0 : List Int) (a1 : Int) (r1 : List Int) (r2 : List Int) (r3 : Int) (w : World) (hr0 : Kd.C (Kd.int .u8) w A0 l0.length l0) (hc0 : l0.length ≤ c0) (h : cambiumref01_take.f k l0 a1 = some (r1, r2, r3)) :
  Calls Tryd.prog 54 #[.slice A0 l0.length c0, .int .i64 a1] w fun e w' => ∃ v0_ v1_ : Value, e = .returned (.tuple #[v0_, v1_, .int .i64 r3]) ∧ Kd.R (Kd.int .u8) 5 w' w.heap.size (fun k_ => some k_ ≠ (v1_ : Value).ownBlock) v0_ r1 ∧ Kd.R (Kd.int .u8) 5 w' w.heap.size (fun k_ => some k_ ≠ (v0_ : Value).ownBlock) v1_ r2 ∧ Below w.heap.size w w' := by
 have HR0 := Aside0.mk hr0
 have HC0 := Aside0.mk hc0
 clear hr0 hc0
 have HB := Aside0.mk (Below.refl w.heap.size w)
 have H : ((cambiumref01_Take.f k l0 a1).bind fun bt414 => (if bt414.2.2 = 0 then (if (bt414.2.1.length : Int) < bt414.1 then (some (([] : List Int), ([] : List Int), 2)) else ((some (([] : List Int) : List Int)).bind fun y419 => (if 0 ≤ bt414.1 then (if bt414.1 ≤ (bt414.2.1.length : Int) then ((some (bt414.2.1.take (bt414.1 : Int).toNat : List Int)).bind fun y422 => (if y419.length + y422.length < 140737488355328 then ((some (([] : List Int) : List Int)).bind fun y430 => ((some (bt414.2.1.drop (bt414.1 : Int).toNat : List Int)).bind fun y433 => (if y430.length + y433.length < 140737488355328 then (some ((y419 ++ y422), (y430 ++ y433), 0)) else (none)))) else (none))) else (none)) else (none)))) else (some (([] : List Int), ([] : List Int), 2)))) = some (r1, r2, r3) := h
 clear h
 replace H := Option.bind_eq_some_iff.mp H
 obtain ⟨⟨t414, t415, t418⟩, A30, H⟩ := H
 replace H : (if t418 = 0 then (if (t415.length : Int) < t414 then (some (([] : List Int), ([] : List Int), 2)) else ((some (([] : List Int) : List Int)).bind fun y419 => (if 0 ≤ t414 then (if t414 ≤ (t415.length : Int) then ((some (t415.take (t414 : Int).toNat : List Int)).bind fun y422 => (if y419.length + y422.length < 140737488355328 then ((some (([] : List Int) : List Int)).bind fun y430 => ((some (t415.drop (t414 : Int).toNat : List Int)).bind fun y433 => (if y430.length + y433.length < 140737488355328 then (some ((y419 ++ y422), (y430 ++ y433), 0)) else (none)))) else (none))) else (none)) else (none)))) else (some (([] : List Int), ([] : List Int), 2))) = some (r1, r2, r3) := H
 have A3 := Aside0.mk A30
 clear A30
 by_cases c4 : t418 = 0
 ·rw [if_pos c4] at H
  have c4b0 : (t418 == 0) = true := beq_iff_eq.mpr c4
  have c4b1 : (t418 != 0) = false := bne_eq_false_iff_eq.mpr c4
  clear c4
  by_cases c5 : (t415.length : Int) < t414
  ·rw [if_pos c5] at H
   have c5b0 : decide ((t415.length : Int) < t414) = true := decide_eq_true c5
   clear c5
   simp only [Option.some.injEq, Prod.mk.injEq] at H
   obtain ⟨rfl, rfl, rfl⟩ := H
   go_enter Tryd.func54, Tryd.ntmps54
   go_wp2_with (first | ((with_reducible refine gate_callee (f := 39) rfl ?_); refine goesL_ (some 13) rfl rfl Tryd.func39 q37_ rfl #[.slice A0 l0.length c0, .int .i64 a1] rfl q3_ ?_; (with_reducible refine (cambiumref01_Take.calls k _ _ l0 a1 t414 t415 t418 _ ?side1 ?side2 A3.out).mono ?_); (case side1 => repeat (first | exact HR0.out | (with_reducible refine Kd.C_alloc ?_ _) | (with_reducible refine Kd.C_drewN ?_ _) | (with_reducible refine Kd.C_drew ?_))); (case side2 => exact HC0.out); rintro e w6 ⟨v416, rfl, ho0, hb⟩; refine ⟨_, rfl, ?_⟩; have n0_ := Aside0.mk (Kd.V_lower (Kd.V_mono (ok' := fun k_ => True) ho0 (fun k_ hk_ => trivial)) (below_size q0_)); have n1_ := Aside0.mk (below_step q0_ hb); clear HB; have HO417 := n0_; have HB := n1_; clear n0_ n1_; (try clear hb); (try clear hb2); (try clear hk); (try clear hi); (try clear ho0); obtain ⟨Ao7, co7, eo7⟩ := Kd.V_slice HO417.out; subst eo7))
   go_ret3
   exact ⟨_, _, by first | rfl | (simp [errW_none, errW_some] <;> rfl) | (simp [*, errW_none, errW_some] <;> rfl), by first | exact Kd.R_nil _ _ _ _ _ | exact Kd.N_nil _ _ _ _ _ | exact Kd.V_nil _ _ _ _ _ | exact Kd.Q_nil _ _ _ _ _ | exact Kd.S_nil _ _ _ _ _, by first | exact Kd.R_nil _ _ _ _ _ | exact Kd.N_nil _ _ _ _ _ | exact Kd.V_nil _ _ _ _ _ | exact Kd.Q_nil _ _ _ _ _ | exact Kd.S_nil _ _ _ _ _, by repeat (first | (with_reducible first | exact HB.out | apply below_alloc | apply pw_below_drewN | apply below_drew1) | exact HB.out)⟩
  ·rw [if_neg c5] at H
   have c5b0 : decide ((t415.length : Int) < t414) = false := decide_eq_false c5
   clear c5
   obtain ⟨y419, hy419⟩ : ∃ y_ : List Int, y_ = (([] : List Int)) := ⟨_, rfl⟩
   replace H : (if 0 ≤ t414 then (if t414 ≤ (t415.length : Int) then ((some (t415.take (t414 : Int).toNat : List Int)).bind fun y422 => (if y419.length + y422.length < 140737488355328 then ((some (([] : List Int) : List Int)).bind fun y430 => ((some (t415.drop (t414 : Int).toNat : List Int)).bind fun y433 => (if y430.length + y433.length < 140737488355328 then (some ((y419 ++ y422), (y430 ++ y433), 0)) else (none)))) else (none))) else (none)) else (none)) = some (r1, r2, r3) := by first | (rw [hy419]; with_reducible exact H) | (have H2_ := (Option.bind_some _ _).symm.trans H; rw [hy419]; with_reducible exact H2_) | (have H2_ := (Option.bind_some _ _).symm.trans H; with_reducible exact H2_) | with_reducible exact H | (rw [hy419]; exact H) | exact H
   have Ny419 := Aside0.mk hy419
   clear hy419
   by_cases c8 : 0 ≤ t414
   ·rw [if_pos c8] at H
    have c8b0 := eq_true c8
    have c8b1 : decide (0 ≤ t414) = true := decide_eq_true c8
    clear c8
    by_cases c9 : t414 ≤ (t415.length : Int)
    ·rw [if_pos c9] at H
     have c9b0 := eq_true c9
     have c9b1 : decide (t414 ≤ (t415.length : Int)) = true := decide_eq_true c9
     clear c9
     obtain ⟨y422, hy422⟩ : ∃ y_ : List Int, y_ = (t415.take (t414 : Int).toNat) := ⟨_, rfl⟩
     replace H : (if y419.length + y422.length < 140737488355328 then ((some (([] : List Int) : List Int)).bind fun y430 => ((some (t415.drop (t414 : Int).toNat : List Int)).bind fun y433 => (if y430.length + y433.length < 140737488355328 then (some ((y419 ++ y422), (y430 ++ y433), 0)) else (none)))) else (none)) = some (r1, r2, r3) := by first | (rw [hy422]; with_reducible exact H) | (have H2_ := (Option.bind_some _ _).symm.trans H; rw [hy422]; with_reducible exact H2_) | (have H2_ := (Option.bind_some _ _).symm.trans H; with_reducible exact H2_) | with_reducible exact H | (rw [hy422]; exact H) | exact H
     have Ny422 := Aside0.mk hy422
     clear hy422
     by_cases c10 : y419.length + y422.length < 140737488355328
     ·rw [if_pos c10] at H
      have LMc10 := Aside0.mk c10
      clear c10
      obtain ⟨y427, hy427⟩ : ∃ y_ : List Int, y_ = (y419 ++ y422) := ⟨_, rfl⟩
      replace H : ((some (([] : List Int) : List Int)).bind fun y430 => ((some (t415.drop (t414 : Int).toNat : List Int)).bind fun y433 => (if y430.length + y433.length < 140737488355328 then (some (y427, (y430 ++ y433), 0)) else (none)))) = some (r1, r2, r3) := by first | (rw [hy427]; with_reducible exact H) | (have H2_ := (Option.bind_some _ _).symm.trans H; rw [hy427]; with_reducible exact H2_) | (have H2_ := (Option.bind_some _ _).symm.trans H; with_reducible exact H2_) | with_reducible exact H | (rw [hy427]; exact H) | exact H
      have Ny427 := Aside0.mk hy427
      clear hy427
      obtain ⟨y430, hy430⟩ : ∃ y_ : List Int, y_ = (([] : List Int)) := ⟨_, rfl⟩
      replace H : ((some (t415.drop (t414 : Int).toNat : List Int)).bind fun y433 => (if y430.length + y433.length < 140737488355328 then (some (y427, (y430 ++ y433), 0)) else (none))) = some (r1, r2, r3) := by first | (rw [hy430]; with_reducible exact H) | (have H2_ := (Option.bind_some _ _).symm.trans H; rw [hy430]; with_reducible exact H2_) | (have H2_ := (Option.bind_some _ _).symm.trans H; with_reducible exact H2_) | with_reducible exact H | (rw [hy430]; exact H) | exact H
      have Ny430 := Aside0.mk hy430
      clear hy430
      have c11b0 := eq_true (of_decide_eq_true q7_ : 0 ≤ t414)
      have c12b0 := eq_true (of_decide_eq_true q7_ : t414 ≤ (t415.length : Int))
      obtain ⟨y433, hy433⟩ : ∃ y_ : List Int, y_ = (t415.drop (t414 : Int).toNat) := ⟨_, rfl⟩
      replace H : (if y430.length + y433.length < 140737488355328 then (some (y427, (y430 ++ y433), 0)) else (none)) = some (r1, r2, r3) := by first | (rw [hy433]; with_reducible exact H) | (have H2_ := (Option.bind_some _ _).symm.trans H; rw [hy433]; with_reducible exact H2_) | (have H2_ := (Option.bind_some _ _).symm.trans H; with_reducible exact H2_) | with_reducible exact H | (rw [hy433]; exact H) | exact H
      have Ny433 := Aside0.mk hy433
      clear hy433
      by_cases c13 : y430.length + y433.length < 140737488355328
      ·rw [if_pos c13] at H
       have LMc13 := Aside0.mk c13
       clear c13
       obtain ⟨y438, hy438⟩ : ∃ y_ : List Int, y_ = (y430 ++ y433) := ⟨_, rfl⟩
       replace H : (some (y427, y438, 0)) = some (r1, r2, r3) := by first | (rw [hy438]; with_reducible exact H) | (have H2_ := (Option.bind_some _ _).symm.trans H; rw [hy438]; with_reducible exact H2_) | (have H2_ := (Option.bind_some _ _).symm.trans H; with_reducible exact H2_) | with_reducible exact H | (rw [hy438]; exact H) | exact H
       have Ny438 := Aside0.mk hy438
       clear hy438
       simp only [Option.some.injEq, Prod.mk.injEq] at H
       obtain ⟨rfl, rfl, rfl⟩ := H
       go_enter Tryd.func54, Tryd.ntmps54
       try go_wp2_with (first | ((with_reducible refine gate_callee (f := 39) rfl ?_); refine goesL_ (some 13) rfl rfl Tryd.func39 q37_ rfl #[.slice A0 l0.length c0, .int .i64 a1] rfl q3_ ?_; (with_reducible refine (cambiumref01_Take.calls k _ _ l0 a1 t414 t415 t418 _ ?side1 ?side2 A3.out).mono ?_); (case side1 => repeat (first | exact HR0.out | (with_reducible refine Kd.C_alloc ?_ _) | (with_reducible refine Kd.C_drewN ?_ _) | (with_reducible refine Kd.C_drew ?_))); (case side2 => exact HC0.out); rintro e w14 ⟨v416, rfl, ho0, hb⟩; refine ⟨_, rfl, ?_⟩; have n0_ := Aside0.mk (Kd.V_lower (Kd.V_mono (ok' := fun k_ => True) ho0 (fun k_ hk_ => trivial)) (below_size q0_)); have n1_ := Aside0.mk (below_step q0_ hb); clear HB; have HO417 := n0_; have HB := n1_; clear n0_ n1_; (try clear hb); (try clear hb2); (try clear hk); (try clear hi); (try clear ho0); obtain ⟨Ao15, co15, eo15⟩ := Kd.V_slice HO417.out; subst eo15))
       have n0_ := Aside0.mk (Kd.V_drew HO417.out)
       have n1_ := Aside0.mk (below_drew1 HB.out)
       clear HO417
       clear HB
       have HO417 := n0_
       have HB := n1_
       clear n0_ n1_
       have q17 : (t414 : Int) ≤ ((t415.length : Int) : Int) := of_decide_eq_true q7_
       obtain ⟨i017, hi017, _, hsz17, _⟩ := info_parts info5
       have hroom17 : t415.length ≤ co15 := (Kd.V_reads' HO417.out).2.1
       have hC17 : Kd.F (Kd.int .u8) _ _ Ao15 t415.length t415 := (Kd.V_at (base := w.heap.size) HO417.out).2.2
       have hcut17 := cut_to (P := Tryd.prog) 35 5 .i64 Tryd.underlying35 hi017 Ao15 t415.length co15 t414 (of_decide_eq_true q7_) q17 hroom17
       have hr17 := Kd.F_take (m := (t414 : Int).toNat) hC17 (by omega)
       have hy17 : y422.length = (t414 : Int).toNat := (by rw [Ny422.out, List.length_take]; omega)
       rw [← Ny422.out] at hr17
       rw [← hy17] at hcut17
       have HO426 := Aside0.mk (show Kd.V (Kd.int .u8) 5 _ w.heap.size _ (.slice Ao15 y422.length co15) y422 from Kd.V_mk (by omega) hr17)
       have HC426 := Aside0.mk (show y422.length ≤ co15 from by omega)
       clear hr17 hC17 hroom17 hi017 hsz17
       have KY17 := Aside0.mk hy17
       clear hy17
       replace q17 := eq_true q17
       have q18 : (t414 : Int) ≤ ((t415.length : Int) : Int) := of_decide_eq_true q7_
       obtain ⟨i018, hi018, _, hsz18, _⟩ := info_parts info5
       have hroom18 : t415.length ≤ co15 := (Kd.V_reads' HO417.out).2.1
       have hC18 : Kd.F (Kd.int .u8) _ _ Ao15 t415.length t415 := (Kd.V_at (base := w.heap.size) HO417.out).2.2
       have q018 : (0 : Int) ≤ (t414 : Int) := of_decide_eq_true q7_
       have hcut18 := cut_from (P := Tryd.prog) 35 5 .i64 Tryd.underlying35 hi018 1 hsz18 Ao15 t415.length co15 t414 q018 q18
       have hr18 := Kd.F_cut (m := (t414 : Int).toNat) (c := co15) hC18 (by omega) hroom18
       obtain ⟨A18, hA18⟩ : ∃ A1, A1 = (if co15 = (t414 : Int).toNat then Ao15 else (Ao15 : Option Addr).map (·.add ((t414 : Int).toNat * 1))) := ⟨_, rfl⟩
       obtain ⟨c18, hc18⟩ : ∃ c1, c1 = co15 - (t414 : Int).toNat := ⟨_, rfl⟩
       have hy18 : y433.length = t415.length - (t414 : Int).toNat := (by rw [Ny433.out, List.length_drop] <;> omega)
       rw [show (t415).drop (t414 : Int).toNat = y433 from Ny433.out.symm] at hr18
       replace hr18 : Kd.F (Kd.int .u8) _ _ A18 y433.length y433 := (by rw [hA18]; exact hr18)
       rw [← hy18, ← hA18, ← hc18] at hcut18
       have HO437 := Aside0.mk (show Kd.V (Kd.int .u8) 5 _ w.heap.size _ (.slice A18 y433.length c18) y433 from Kd.V_mk (by rw [hy18, hc18]; exact Nat.sub_le_sub_right hroom18 _) hr18)
       have HC437 := Aside0.mk (show y433.length ≤ c18 from by rw [hy18, hc18]; exact Nat.sub_le_sub_right hroom18 _)
       clear hr18 hC18 hroom18 hi018 hsz18 hc18
       have KY18 := Aside0.mk hy18
       have KA18 := Aside0.mk hA18
       clear hy18 hA18
       replace q18 := eq_true q18
       refine start_ (n := 13) (S := fun w' => True) (ds := []) (bl_ 13 0) q37_ rfl rfl trivial (fun hHeld => ?_); refine with_tabW cambiumref01_take.tab4 cambiumref01_take.bits4 (fun HT_ HW_ => ?_)
       generalize w14.drew = w16 at HO417 HB HO426 HO437 hHeld ⊢
       refine pure_ (i := 1) (N := some 26) (v := ?_) (a' := ?_) (bl_ 13 2) rfl rfl (any_of HT_.out q37_) (fun _ _ _ h => h) (Or.inl ⟨by rfl, ?_⟩) ?_ ?_
       rotate_left
       ·intro w'
        go_simp
        with_reducible rfl
       rotate_left
       ·simp only [Act.put, List.setIfInBounds_toArray, List.set_cons_zero, List.set_cons_succ, i64_w, i32_w]
        rfl
       refine pure_ (i := 2) (N := some 27) (v := ?_) (a' := ?_) (bl_ 13 6) rfl rfl (any_of HT_.out q37_) (fun _ _ _ h => h) (Or.inl ⟨by rfl, ?_⟩) ?_ ?_
       rotate_left
       ·intro w'
        go_simp
        with_reducible rfl
       rotate_left
       ·simp only [Act.put, List.setIfInBounds_toArray, List.set_cons_zero, List.set_cons_succ, i64_w, i32_w]
        rfl
       refine pure_ (i := 3) (N := some 28) (v := ?_) (a' := ?_) (bl_ 13 14) rfl rfl (any_of HT_.out q37_) (fun _ _ _ h => h) (Or.inl ⟨by rfl, ?_⟩) ?_ ?_
       rotate_left
       ·intro w'
        go_simp
        with_reducible rfl
       rotate_left
       ·simp only [Act.put, List.setIfInBounds_toArray, List.set_cons_zero, List.set_cons_succ, i64_w, i32_w]
        rfl
       refine pure_ (i := 6) (N := some 31) (v := ?_) (a' := ?_) (bl_ 13 78) rfl rfl (any_of HT_.out q37_) (fun _ _ _ h => h) (Or.inl ⟨by rfl, ?_⟩) ?_ ?_
       rotate_left
       ·intro w'
        go_simp
        with_reducible rfl
       rotate_left
       ·simp only [Act.put, List.setIfInBounds_toArray, List.set_cons_zero, List.set_cons_succ, i64_w, i32_w]
        rfl
       refine pure_ (i := 7) (N := some 32) (v := ?_) (a' := ?_) (bl_ 13 206) rfl rfl (any_of HT_.out q37_) (fun _ _ _ h => h) (Or.inl ⟨by rfl, ?_⟩) ?_ ?_
       rotate_left
       ·intro w'
        go_simp
        with_reducible rfl
       rotate_left
       ·simp only [Act.put, List.setIfInBounds_toArray, List.set_cons_zero, List.set_cons_succ, i64_w, i32_w]
        rfl
       refine pure_ (i := 8) (N := some 33) (v := ?_) (a' := ?_) (bl_ 13 462) rfl rfl (any_of HT_.out q37_) (fun _ _ _ h => h) (Or.inl ⟨by rfl, ?_⟩) ?_ ?_
       rotate_left
       ·intro w'
        go_simp
        with_reducible rfl
       rotate_left
       ·simp only [Act.put, List.setIfInBounds_toArray, List.set_cons_zero, List.set_cons_succ, i64_w, i32_w]
        rfl
       refine join_ (σ := Value × Value × Value) 4 (bl_ 13 511) (fun s_ => [(25, s_.1), (29, s_.2.1), (30, s_.2.2)]) (fun s_ w' => (Kd.V (Kd.int .u8) 5 w' w.heap.size (fun k_ => some k_ ≠ (s_.2.1 : Value).ownBlock ∧ some k_ ≠ (s_.2.2 : Value).ownBlock) (.slice Ao15 t415.length co15) t415) ∧ (Kd.V (Kd.int .u8) 5 w' w.heap.size (fun k_ => some k_ ≠ (s_.2.1 : Value).ownBlock ∧ some k_ ≠ (s_.2.2 : Value).ownBlock) (.slice Ao15 y422.length co15) y422) ∧ (Kd.R (Kd.int .u8) 5 w' w.heap.size (fun k_ => some k_ ≠ (s_.2.2 : Value).ownBlock) s_.2.1 y427) ∧ (Kd.R (Kd.int .u8) 5 w' w.heap.size (fun k_ => some k_ ≠ (s_.2.1 : Value).ownBlock) s_.2.2 y430) ∧ (Kd.V (Kd.int .u8) 5 w' w.heap.size (fun k_ => some k_ ≠ (s_.2.1 : Value).ownBlock ∧ some k_ ≠ (s_.2.2 : Value).ownBlock) (.slice A18 y433.length c18) y433) ∧ (Below w.heap.size w w')) ?_ ?_
       rotate_left
       ·intro hCont
        refine two_ (i := 0) (j := 5) (Ni := some 25) (Nj := some 30) (bl_ 13 463) (bl_ 13 494) rfl rfl rfl rfl (two_of HT_.out q37_) (by decide) (by decide) (fun K hK => ?_) (fun K hK => ?_)
        ·skip
         refine Kd.R_lit_step (Kd.int .u8) _ 5 ?hg (N := 25) ?hd (xs := ([] : List Int)) (inner := []) (ok := fun _ => True) (okp := fun _ => True) ?hr ?hp (fun _ hk => hk) trivial (Below.refl _ _) (Nat.le_refl _) (by simp) ?_; (case hd => rfl); (case hg => rfl); (case hr => first | (go_simp; done) | (go_simp; rfl)); (case hp => exact (Reps.none _ _))
         intro v420 w19 ho20 hb hg_ hnew_
         clear hg_ hnew_
         (first | rw [← Ny419.out] at ho20 | (simp only [Int.reduceToNat] at ho20; rw [← Ny419.out] at ho20))
         have n0_ := Aside0.mk (Kd.V_elder' q67_ (Kd.R_base ho20) hb)
         have n1_ := Aside0.mk (Kd.V_elder' q68_ (Kd.R_base ho20) hb)
         have n2_ := Aside0.mk (Kd.V_elder' q69_ (Kd.R_base ho20) hb)
         have n3_ := Aside0.mk (Kd.R_lower ho20 (below_size q0_))
         have n4_ := Aside0.mk (below_step q0_ hb)
         clear HO417
         clear HO426
         clear HO437
         clear HB
         have HO417 := n0_
         have HO426 := n1_
         have HO437 := n2_
         have HO421 := n3_
         have HB := n4_
         clear n0_ n1_ n2_ n3_ n4_
         clear hb ho20
         refine hK.out _ _ trivial (fun hHeld => ?_)
         clear hK K
         refine norm_ (a' := ?_) ?_ ?_
         rotate_left
         ·show Act.put _ (some 25) _ = _
          simp only [Act.put, List.setIfInBounds_toArray, List.set_cons_zero, List.set_cons_succ, i64_w, i32_w]
          rfl
         refine two_ (i := 4) (j := 5) (Ni := some 29) (Nj := some 30) (bl_ 13 479) (bl_ 13 495) rfl rfl rfl rfl (two_of HT_.out q37_) (by decide) (by decide) (fun K hK => ?_) (fun K hK => ?_)
         ·skip
          refine Kd.R_append_rows_step (Kd.int .u8) (w0 := w) w.heap.size (by rfl) (.tmp 25) (.tmp 28) 35 5 (.int .u8 0) 1 rfl Tryd.underlying35 info5 rfl (by decide) (by omega) v420 y419 y422 _ _ _ (fun _ => True) (fun _ => False) rfl rfl ?aO ?aR (fun _ _ h => h) (fun _ h => h.elim) ?aF ?aB ?aS ?aL ?_
          (case aR => repeat (first | exact (Kd.V_reads' HO426.out).2.2 | (with_reducible refine Kd.C_alloc ?_ _) | (with_reducible refine Kd.C_drewN ?_ _) | (with_reducible refine Kd.C_drew ?_)))
          (case aB => exact q0_)
          (case aF => exact (fun _ _ => trivial))
          (case aO => exact (by (with_reducible repeat (first | apply Kd.R_alloc | apply Kd.R_drewN | apply Kd.R_drew)); exact HO421.out))
          (case aS => exact (below_size q0_))
          (case aL => have := LMc10.out; omega)
          intro v428 w21 ho hb hg hat
          rw [← Ny427.out] at ho
          have n0_ := Aside0.mk (Kd.V_afterv (ok := (fun _ => True)) q67_ hg hat)
          have n1_ := Aside0.mk (Kd.V_afterv (ok := (fun _ => True)) q68_ hg hat)
          have n2_ := Aside0.mk (Kd.V_afterv (ok := (fun _ => True)) q69_ hg hat)
          have n3_ := Aside0.mk (hb)
          have n4_ := Aside0.mk (ho)
          clear HO417
          clear HO426
          clear HO437
          clear HB
          clear HO421
          have HO417 := n0_
          have HO426 := n1_
          have HO437 := n2_
          have HB := n3_
          have HO429 := n4_
          clear n0_ n1_ n2_ n3_ n4_
          clear ho hb hg hat
          refine hK.out _ _ trivial (fun hHeld => ?_)
          clear hK K
          refine norm_ (a' := ?_) ?_ ?_
          rotate_left
          ·show Act.put _ (some 29) _ = _
           simp only [Act.put, List.setIfInBounds_toArray, List.set_cons_zero, List.set_cons_succ, i64_w, i32_w]
           rfl
          refine one_ (i := 5) (N := some 30) (bl_ 13 511) rfl rfl (one_of HT_.out q37_) (by decide) (fun K hK => ?_)
          refine Kd.R_lit_step (Kd.int .u8) _ 5 ?hg (N := 30) ?hd (xs := ([] : List Int)) (inner := []) (ok := fun _ => True) (okp := fun _ => True) ?hr ?hp (fun _ hk => hk) trivial (Below.refl _ _) (Nat.le_refl _) (by simp) ?_; (case hd => rfl); (case hg => rfl); (case hr => first | (go_simp; done) | (go_simp; rfl)); (case hp => exact (Reps.none _ _))
          intro v431 w22 ho23 hb hg_ hnew_
          clear hg_ hnew_
          (first | rw [← Ny430.out] at ho23 | (simp only [Int.reduceToNat] at ho23; rw [← Ny430.out] at ho23))
          have n0_ := Aside0.mk (Kd.V_elder' q67_ (Kd.R_base ho23) hb)
          have n1_ := Aside0.mk (Kd.V_elder' q68_ (Kd.R_base ho23) hb)
          have n2_ := Aside0.mk (Kd.V_elder' q69_ (Kd.R_base ho23) hb)
          have n3_ := Aside0.mk (Kd.R_elder' q78_ (Kd.R_base ho23) hb)
          have n4_ := Aside0.mk (Kd.R_lower (Kd.R_new' ho23 (Kd.R_lt q78_)) (below_size q0_))
          have n5_ := Aside0.mk (below_step q0_ hb)
          clear HO417
          clear HO426
          clear HO437
          clear HO429
          clear HB
          have HO417 := n0_
          have HO426 := n1_
          have HO437 := n2_
          have HO429 := n3_
          have HO432 := n4_
          have HB := n5_
          clear n0_ n1_ n2_ n3_ n4_ n5_
          clear hb ho23
          refine hK.out _ _ trivial (fun hHeld => ?_)
          clear hK K
          refine norm_ (a' := ?_) ?_ ?_
          rotate_left
          ·show Act.put _ (some 30) _ = _
           simp only [Act.put, List.setIfInBounds_toArray, List.set_cons_zero, List.set_cons_succ, i64_w, i32_w]
           rfl
          exact norm_ (by simp only [putAll, Act.put, List.setIfInBounds_toArray, List.set_cons_zero, List.set_cons_succ]) (hCont (v420, v428, v431) _ ⟨(by (with_reducible repeat (first | apply Kd.V_alloc | apply Kd.V_drewN | apply Kd.V_drew)); exact Kd.V_mono HO417.out (fun _ hk => ⟨hk.1.2, hk.2⟩)), (by (with_reducible repeat (first | apply Kd.V_alloc | apply Kd.V_drewN | apply Kd.V_drew)); exact Kd.V_mono HO426.out (fun _ hk => ⟨hk.1.2, hk.2⟩)), (by (with_reducible repeat (first | apply Kd.R_alloc | apply Kd.R_drewN | apply Kd.R_drew)); exact Kd.R_mono HO429.out (fun _ hk => hk.2)), (by (with_reducible repeat (first | apply Kd.R_alloc | apply Kd.R_drewN | apply Kd.R_drew)); exact Kd.R_mono HO432.out (fun _ hk => hk.2)), (by (with_reducible repeat (first | apply Kd.V_alloc | apply Kd.V_drewN | apply Kd.V_drew)); exact Kd.V_mono HO437.out (fun _ hk => ⟨hk.1.2, hk.2⟩)), q0_⟩)
         ·skip
          refine Kd.R_lit_step (Kd.int .u8) _ 5 ?hg (N := 30) ?hd (xs := ([] : List Int)) (inner := []) (ok := fun _ => True) (okp := fun _ => True) ?hr ?hp (fun _ hk => hk) trivial (Below.refl _ _) (Nat.le_refl _) (by simp) ?_; (case hd => rfl); (case hg => rfl); (case hr => first | (go_simp; done) | (go_simp; rfl)); (case hp => exact (Reps.none _ _))
          intro v431 w21 ho22 hb hg_ hnew_
          clear hg_ hnew_
          (first | rw [← Ny430.out] at ho22 | (simp only [Int.reduceToNat] at ho22; rw [← Ny430.out] at ho22))
          have n0_ := Aside0.mk (Kd.V_elder' q67_ (Kd.R_base ho22) hb)
          have n1_ := Aside0.mk (Kd.V_elder' q68_ (Kd.R_base ho22) hb)
          have n2_ := Aside0.mk (Kd.V_elder' q69_ (Kd.R_base ho22) hb)
          have n3_ := Aside0.mk (Kd.R_elder' (by (with_reducible repeat (first | apply Kd.R_alloc | apply Kd.R_drewN | apply Kd.R_drew)); exact HO421.out) (Kd.R_base ho22) hb)
          have n4_ := Aside0.mk (Kd.R_lower (Kd.R_new' ho22 (Kd.R_lt (by (with_reducible repeat (first | apply Kd.R_alloc | apply Kd.R_drewN | apply Kd.R_drew)); exact HO421.out))) (below_size q0_))
          have n5_ := Aside0.mk (below_step q0_ hb)
          clear HO417
          clear HO426
          clear HO437
          clear HO421
          clear HB
          have HO417 := n0_
          have HO426 := n1_
          have HO437 := n2_
          have HO421 := n3_
          have HO432 := n4_
          have HB := n5_
          clear n0_ n1_ n2_ n3_ n4_ n5_
          clear hb ho22
          refine hK.out _ _ trivial (fun hHeld => ?_)
          clear hK K
          refine norm_ (a' := ?_) ?_ ?_
          rotate_left
          ·show Act.put _ (some 30) _ = _
           simp only [Act.put, List.setIfInBounds_toArray, List.set_cons_zero, List.set_cons_succ, i64_w, i32_w]
           rfl
          refine one_ (i := 4) (N := some 29) (bl_ 13 511) rfl rfl (one_of HT_.out q37_) (by decide) (fun K hK => ?_)
          refine Kd.R_append_rows_step (Kd.int .u8) (w0 := w) w.heap.size (by rfl) (.tmp 25) (.tmp 28) 35 5 (.int .u8 0) 1 rfl Tryd.underlying35 info5 rfl (by decide) (by omega) v420 y419 y422 _ _ _ (fun k_ => some k_ ≠ (v431 : Value).ownBlock) (fun _ => False) rfl rfl ?aO ?aR (fun _ _ h => h) (fun _ h => h.elim) ?aF ?aB ?aS ?aL ?_
          (case aR => repeat (first | exact (Kd.V_reads' HO426.out).2.2 | (with_reducible refine Kd.C_alloc ?_ _) | (with_reducible refine Kd.C_drewN ?_ _) | (with_reducible refine Kd.C_drew ?_)))
          (case aB => exact q0_)
          (case aF => exact (fun k_ hk => Kd.fresh' (Kd.R_lt q70_) k_ hk))
          (case aO => exact (by (with_reducible repeat (first | apply Kd.R_alloc | apply Kd.R_drewN | apply Kd.R_drew)); exact Kd.R_mono HO421.out (fun _ hk => hk.2)))
          (case aS => exact (below_size q0_))
          (case aL => have := LMc10.out; omega)
          intro v428 w23 ho hb hg hat
          rw [← Ny427.out] at ho
          have n0_ := Aside0.mk (Kd.V_afterv (ok := (fun k_ => some k_ ≠ (v431 : Value).ownBlock)) (by (with_reducible repeat (first | apply Kd.V_alloc | apply Kd.V_drewN | apply Kd.V_drew)); exact Kd.V_mono HO417.out (fun _ hk => ⟨hk.2, hk.1.2⟩)) hg hat)
          have n1_ := Aside0.mk (Kd.V_afterv (ok := (fun k_ => some k_ ≠ (v431 : Value).ownBlock)) (by (with_reducible repeat (first | apply Kd.V_alloc | apply Kd.V_drewN | apply Kd.V_drew)); exact Kd.V_mono HO426.out (fun _ hk => ⟨hk.2, hk.1.2⟩)) hg hat)
          have n2_ := Aside0.mk (Kd.V_afterv (ok := (fun k_ => some k_ ≠ (v431 : Value).ownBlock)) (by (with_reducible repeat (first | apply Kd.V_alloc | apply Kd.V_drewN | apply Kd.V_drew)); exact Kd.V_mono HO437.out (fun _ hk => ⟨hk.2, hk.1.2⟩)) hg hat)
          have n3_ := Aside0.mk (Kd.R_after (ok := (fun _ => True)) q70_ hg hat)
          have n4_ := Aside0.mk (hb)
          have n5_ := Aside0.mk (ho)
          clear HO417
          clear HO426
          clear HO437
          clear HO432
          clear HB
          clear HO421
          have HO417 := n0_
          have HO426 := n1_
          have HO437 := n2_
          have HO432 := n3_
          have HB := n4_
          have HO429 := n5_
          clear n0_ n1_ n2_ n3_ n4_ n5_
          clear ho hb hg hat
          refine hK.out _ _ trivial (fun hHeld => ?_)
          clear hK K
          refine norm_ (a' := ?_) ?_ ?_
          rotate_left
          ·show Act.put _ (some 29) _ = _
           simp only [Act.put, List.setIfInBounds_toArray, List.set_cons_zero, List.set_cons_succ, i64_w, i32_w]
           rfl
          exact norm_ (by simp only [putAll, Act.put, List.setIfInBounds_toArray, List.set_cons_zero, List.set_cons_succ]) (hCont (v420, v428, v431) _ ⟨(by (with_reducible repeat (first | apply Kd.V_alloc | apply Kd.V_drewN | apply Kd.V_drew)); exact Kd.V_mono HO417.out (fun _ hk => ⟨hk.2, hk.1⟩)), (by (with_reducible repeat (first | apply Kd.V_alloc | apply Kd.V_drewN | apply Kd.V_drew)); exact Kd.V_mono HO426.out (fun _ hk => ⟨hk.2, hk.1⟩)), q78_, (by (with_reducible repeat (first | apply Kd.R_alloc | apply Kd.R_drewN | apply Kd.R_drew)); exact Kd.R_mono HO432.out (fun _ hk => hk.2)), (by (with_reducible repeat (first | apply Kd.V_alloc | apply Kd.V_drewN | apply Kd.V_drew)); exact Kd.V_mono HO437.out (fun _ hk => ⟨hk.2, hk.1⟩)), q0_⟩)
        ·skip
         refine Kd.R_lit_step (Kd.int .u8) _ 5 ?hg (N := 30) ?hd (xs := ([] : List Int)) (inner := []) (ok := fun _ => True) (okp := fun _ => True) ?hr ?hp (fun _ hk => hk) trivial (Below.refl _ _) (Nat.le_refl _) (by simp) ?_; (case hd => rfl); (case hg => rfl); (case hr => first | (go_simp; done) | (go_simp; rfl)); (case hp => exact (Reps.none _ _))
         intro v431 w19 ho20 hb hg_ hnew_
         clear hg_ hnew_
         (first | rw [← Ny430.out] at ho20 | (simp only [Int.reduceToNat] at ho20; rw [← Ny430.out] at ho20))
         have n0_ := Aside0.mk (Kd.V_elder' q67_ (Kd.R_base ho20) hb)
         have n1_ := Aside0.mk (Kd.V_elder' q68_ (Kd.R_base ho20) hb)
         have n2_ := Aside0.mk (Kd.V_elder' q69_ (Kd.R_base ho20) hb)
         have n3_ := Aside0.mk (Kd.R_lower ho20 (below_size q0_))
         have n4_ := Aside0.mk (below_step q0_ hb)
         clear HO417
         clear HO426
         clear HO437
         clear HB
         have HO417 := n0_
         have HO426 := n1_
         have HO437 := n2_
         have HO432 := n3_
         have HB := n4_
         clear n0_ n1_ n2_ n3_ n4_
         clear hb ho20
         refine hK.out _ _ trivial (fun hHeld => ?_)
         clear hK K
         refine norm_ (a' := ?_) ?_ ?_
         rotate_left
         ·show Act.put _ (some 30) _ = _
          simp only [Act.put, List.setIfInBounds_toArray, List.set_cons_zero, List.set_cons_succ, i64_w, i32_w]
          rfl
         refine one_ (i := 0) (N := some 25) (bl_ 13 495) rfl rfl (one_of HT_.out q37_) (by decide) (fun K hK => ?_)
         refine Kd.R_lit_step (Kd.int .u8) _ 5 ?hg (N := 25) ?hd (xs := ([] : List Int)) (inner := []) (ok := fun _ => True) (okp := fun _ => True) ?hr ?hp (fun _ hk => hk) trivial (Below.refl _ _) (Nat.le_refl _) (by simp) ?_; (case hd => rfl); (case hg => rfl); (case hr => first | (go_simp; done) | (go_simp; rfl)); (case hp => exact (Reps.none _ _))
         intro v420 w21 ho22 hb hg_ hnew_
         clear hg_ hnew_
         (first | rw [← Ny419.out] at ho22 | (simp only [Int.reduceToNat] at ho22; rw [← Ny419.out] at ho22))
         have n0_ := Aside0.mk (Kd.V_elder' q67_ (Kd.R_base ho22) hb)
         have n1_ := Aside0.mk (Kd.V_elder' q68_ (Kd.R_base ho22) hb)
         have n2_ := Aside0.mk (Kd.V_elder' q69_ (Kd.R_base ho22) hb)
         have n3_ := Aside0.mk (Kd.R_elder' q70_ (Kd.R_base ho22) hb)
         have n4_ := Aside0.mk (Kd.R_lower (Kd.R_new' ho22 (Kd.R_lt q70_)) (below_size q0_))
         have n5_ := Aside0.mk (below_step q0_ hb)
         clear HO417
         clear HO426
         clear HO437
         clear HO432
         clear HB
         have HO417 := n0_
         have HO426 := n1_
         have HO437 := n2_
         have HO432 := n3_
         have HO421 := n4_
         have HB := n5_
         clear n0_ n1_ n2_ n3_ n4_ n5_
         clear hb ho22
         refine hK.out _ _ trivial (fun hHeld => ?_)
         clear hK K
         refine norm_ (a' := ?_) ?_ ?_
         rotate_left
         ·show Act.put _ (some 25) _ = _
          simp only [Act.put, List.setIfInBounds_toArray, List.set_cons_zero, List.set_cons_succ, i64_w, i32_w]
          rfl
         refine one_ (i := 4) (N := some 29) (bl_ 13 511) rfl rfl (one_of HT_.out q37_) (by decide) (fun K hK => ?_)
         refine Kd.R_append_rows_step (Kd.int .u8) (w0 := w) w.heap.size (by rfl) (.tmp 25) (.tmp 28) 35 5 (.int .u8 0) 1 rfl Tryd.underlying35 info5 rfl (by decide) (by omega) v420 y419 y422 _ _ _ (fun k_ => some k_ ≠ (v431 : Value).ownBlock) (fun _ => False) rfl rfl ?aO ?aR (fun _ _ h => h) (fun _ h => h.elim) ?aF ?aB ?aS ?aL ?_
         (case aR => repeat (first | exact (Kd.V_reads' HO426.out).2.2 | (with_reducible refine Kd.C_alloc ?_ _) | (with_reducible refine Kd.C_drewN ?_ _) | (with_reducible refine Kd.C_drew ?_)))
         (case aB => exact q0_)
         (case aF => exact (fun k_ hk => Kd.fresh' (Kd.R_lt q70_) k_ hk))
         (case aO => exact (by (with_reducible repeat (first | apply Kd.R_alloc | apply Kd.R_drewN | apply Kd.R_drew)); exact Kd.R_mono HO421.out (fun _ hk => hk.2)))
         (case aS => exact (below_size q0_))
         (case aL => have := LMc10.out; omega)
         intro v428 w23 ho hb hg hat
         rw [← Ny427.out] at ho
         have n0_ := Aside0.mk (Kd.V_afterv (ok := (fun k_ => some k_ ≠ (v431 : Value).ownBlock)) (by (with_reducible repeat (first | apply Kd.V_alloc | apply Kd.V_drewN | apply Kd.V_drew)); exact Kd.V_mono HO417.out (fun _ hk => ⟨hk.1.2, hk.2⟩)) hg hat)
         have n1_ := Aside0.mk (Kd.V_afterv (ok := (fun k_ => some k_ ≠ (v431 : Value).ownBlock)) (by (with_reducible repeat (first | apply Kd.V_alloc | apply Kd.V_drewN | apply Kd.V_drew)); exact Kd.V_mono HO426.out (fun _ hk => ⟨hk.1.2, hk.2⟩)) hg hat)
         have n2_ := Aside0.mk (Kd.V_afterv (ok := (fun k_ => some k_ ≠ (v431 : Value).ownBlock)) (by (with_reducible repeat (first | apply Kd.V_alloc | apply Kd.V_drewN | apply Kd.V_drew)); exact Kd.V_mono HO437.out (fun _ hk => ⟨hk.1.2, hk.2⟩)) hg hat)
         have n3_ := Aside0.mk (Kd.R_after (ok := (fun _ => True)) q70_ hg hat)
         have n4_ := Aside0.mk (hb)
         have n5_ := Aside0.mk (ho)
         clear HO417
         clear HO426
         clear HO437
         clear HO432
         clear HB
         clear HO421
         have HO417 := n0_
         have HO426 := n1_
         have HO437 := n2_
         have HO432 := n3_
         have HB := n4_
         have HO429 := n5_
         clear n0_ n1_ n2_ n3_ n4_ n5_
         clear ho hb hg hat
         refine hK.out _ _ trivial (fun hHeld => ?_)
         clear hK K
         refine norm_ (a' := ?_) ?_ ?_
         rotate_left
         ·show Act.put _ (some 29) _ = _
          simp only [Act.put, List.setIfInBounds_toArray, List.set_cons_zero, List.set_cons_succ, i64_w, i32_w]
          rfl
         exact norm_ (by simp only [putAll, Act.put, List.setIfInBounds_toArray, List.set_cons_zero, List.set_cons_succ]) (hCont (v420, v428, v431) _ ⟨(by (with_reducible repeat (first | apply Kd.V_alloc | apply Kd.V_drewN | apply Kd.V_drew)); exact Kd.V_mono HO417.out (fun _ hk => ⟨hk.2, hk.1⟩)), (by (with_reducible repeat (first | apply Kd.V_alloc | apply Kd.V_drewN | apply Kd.V_drew)); exact Kd.V_mono HO426.out (fun _ hk => ⟨hk.2, hk.1⟩)), q78_, (by (with_reducible repeat (first | apply Kd.R_alloc | apply Kd.R_drewN | apply Kd.R_drew)); exact Kd.R_mono HO432.out (fun _ hk => hk.2)), (by (with_reducible repeat (first | apply Kd.V_alloc | apply Kd.V_drewN | apply Kd.V_drew)); exact Kd.V_mono HO437.out (fun _ hk => ⟨hk.2, hk.1⟩)), q0_⟩)
       rintro ⟨v420, v428, v431⟩ w24 ⟨h0_, h1_, h2_, h3_, h4_, h5_⟩
       have n0_ : Aside0 (Kd.V (Kd.int .u8) 5 w24 w.heap.size (fun k_ => some k_ ≠ (v428 : Value).ownBlock ∧ some k_ ≠ (v431 : Value).ownBlock) (.slice Ao15 t415.length co15) t415) := ⟨h0_⟩
       have n1_ : Aside0 (Kd.V (Kd.int .u8) 5 w24 w.heap.size (fun k_ => some k_ ≠ (v428 : Value).ownBlock ∧ some k_ ≠ (v431 : Value).ownBlock) (.slice Ao15 y422.length co15) y422) := ⟨h1_⟩
       have n2_ : Aside0 (Kd.R (Kd.int .u8) 5 w24 w.heap.size (fun k_ => some k_ ≠ (v431 : Value).ownBlock) v428 y427) := ⟨h2_⟩
       have n3_ : Aside0 (Kd.R (Kd.int .u8) 5 w24 w.heap.size (fun k_ => some k_ ≠ (v428 : Value).ownBlock) v431 y430) := ⟨h3_⟩
       have n4_ : Aside0 (Kd.V (Kd.int .u8) 5 w24 w.heap.size (fun k_ => some k_ ≠ (v428 : Value).ownBlock ∧ some k_ ≠ (v431 : Value).ownBlock) (.slice A18 y433.length c18) y433) := ⟨h4_⟩
       have n5_ : Aside0 (Below w.heap.size w w24) := ⟨h5_⟩
       clear HO417
       clear HB
       clear h0_ h1_ h2_ h3_ h4_ h5_
       have HO417 := n0_
       have HO426 := n1_
       have HO429 := n2_
       have HO432 := n3_
       have HO437 := n4_
       have HB := n5_
       clear n0_ n1_ n2_ n3_ n4_ n5_
       have hHeld := trivial
       refine norm_ (a' := ?_) ?_ ?_
       rotate_left
       ·simp only [putAll, Act.put, List.setIfInBounds_toArray, List.set_cons_zero, List.set_cons_succ]
        rfl
       refine one_ (i := 9) (N := some 34) (bl_ 13 1023) rfl rfl (one_of HT_.out q37_) (by decide) (fun K hK => ?_)
       refine Kd.R_append_rows_step (Kd.int .u8) (w0 := w) w.heap.size (by rfl) (.tmp 30) (.tmp 33) 35 5 (.int .u8 0) 1 rfl Tryd.underlying35 info5 rfl (by decide) (by omega) v431 y430 y433 _ _ _ (fun k_ => some k_ ≠ (v428 : Value).ownBlock) (fun _ => False) rfl rfl ?aO ?aR (fun _ _ h => h) (fun _ h => h.elim) ?aF ?aB ?aS ?aL ?_
       (case aR => repeat (first | exact (Kd.V_reads' HO437.out).2.2 | (with_reducible refine Kd.C_alloc ?_ _) | (with_reducible refine Kd.C_drewN ?_ _) | (with_reducible refine Kd.C_drew ?_)))
       (case aB => exact q0_)
       (case aF => exact (fun k_ hk => Kd.fresh' (Kd.R_lt q78_) k_ hk))
       (case aO => exact q70_)
       (case aS => exact (below_size q0_))
       (case aL => have := LMc13.out; omega)
       intro v439 w25 ho hb hg hat
       rw [← Ny438.out] at ho
       have n0_ := Aside0.mk (Kd.V_afterv (ok := (fun k_ => some k_ ≠ (v428 : Value).ownBlock)) q67_ hg hat)
       have n1_ := Aside0.mk (Kd.V_afterv (ok := (fun k_ => some k_ ≠ (v428 : Value).ownBlock)) q68_ hg hat)
       have n2_ := Aside0.mk (Kd.V_afterv (ok := (fun k_ => some k_ ≠ (v428 : Value).ownBlock)) q69_ hg hat)
       have n3_ := Aside0.mk (Kd.R_after (ok := (fun _ => True)) (by (with_reducible repeat (first | apply Kd.R_alloc | apply Kd.R_drewN | apply Kd.R_drew)); exact Kd.R_mono HO429.out (fun _ hk => ⟨trivial, hk⟩)) hg hat)
       have n4_ := Aside0.mk (hb)
       have n5_ := Aside0.mk (ho)
       clear HO417
       clear HO426
       clear HO437
       clear HO429
       clear HB
       clear HO432
       have HO417 := n0_
       have HO426 := n1_
       have HO437 := n2_
       have HO429 := n3_
       have HB := n4_
       have HO440 := n5_
       clear n0_ n1_ n2_ n3_ n4_ n5_
       clear ho hb hg hat
       refine hK.out _ _ trivial (fun hHeld => ?_)
       clear hK K
       refine norm_ (a' := ?_) ?_ ?_
       rotate_left
       ·show Act.put _ (some 34) _ = _
        simp only [Act.put, List.setIfInBounds_toArray, List.set_cons_zero, List.set_cons_succ, i64_w, i32_w]
        rfl
       refine pure_ (i := 10) (N := some 4) (v := ?_) (a' := ?_) (bl_ 13 2047) rfl rfl (any_of HT_.out q37_) (fun _ _ _ h => h) (Or.inl ⟨by rfl, ?_⟩) ?_ ?_
       rotate_left
       ·intro w'
        go_simp
        with_reducible rfl
       rotate_left
       ·simp only [Act.put, List.setIfInBounds_toArray, List.set_cons_zero, List.set_cons_succ, i64_w, i32_w]
        rfl
       refine pure_ (i := 11) (N := some 5) (v := ?_) (a' := ?_) (bl_ 13 4095) rfl rfl (any_of HT_.out q37_) (fun _ _ _ h => h) (Or.inl ⟨by rfl, ?_⟩) ?_ ?_
       rotate_left
       ·intro w'
        go_simp
        with_reducible rfl
       rotate_left
       ·simp only [Act.put, List.setIfInBounds_toArray, List.set_cons_zero, List.set_cons_succ, i64_w, i32_w]
        rfl
       refine pure_ (i := 12) (N := some 6) (v := ?_) (a' := ?_) (bl_ 13 8191) rfl rfl (any_of HT_.out q37_) (fun _ _ _ h => h) (Or.inl ⟨by rfl, ?_⟩) ?_ ?_
       rotate_left
       ·intro w'
        go_simp
        with_reducible rfl
       rotate_left
       ·simp only [Act.put, List.setIfInBounds_toArray, List.set_cons_zero, List.set_cons_succ, i64_w, i32_w]
        rfl
       refine done_ (done_of HT_.out q37_) ?_
       try go_wp2
       go_ret3
       exact ⟨_, _, by first | rfl | (simp [errW_none, errW_some] <;> rfl) | (simp [*, errW_none, errW_some] <;> rfl), by (with_reducible repeat (first | apply Kd.R_alloc | apply Kd.R_drewN | apply Kd.R_drew)); exact Kd.R_mono HO429.out (fun _ hk => hk.2), by (with_reducible repeat (first | apply Kd.R_alloc | apply Kd.R_drewN | apply Kd.R_drew)); exact HO440.out, by repeat (first | (with_reducible first | exact HB.out | apply below_alloc | apply pw_below_drewN | apply below_drew1) | exact HB.out)⟩
      ·rw [if_neg c13] at H
       exact absurd H (by simp)
     ·rw [if_neg c10] at H
      exact absurd H (by simp)
    ·rw [if_neg c9] at H
     exact absurd H (by simp)
   ·rw [if_neg c8] at H
    exact absurd H (by simp)
 ·rw [if_neg c4] at H
  have c4b0 : (t418 == 0) = false := beq_eq_false_iff_ne.mpr c4
  have c4b1 : (t418 != 0) = true := bne_iff_ne.mpr c4
  simp only [Option.some.injEq, Prod.mk.injEq] at H
  obtain ⟨rfl, rfl, rfl⟩ := H
  go_enter Tryd.func54, Tryd.ntmps54
  go_wp2_with (first | ((with_reducible refine gate_callee (f := 39) rfl ?_); refine goesL_ (some 13) rfl rfl Tryd.func39 q37_ rfl #[.slice A0 l0.length c0, .int .i64 a1] rfl q3_ ?_; (with_reducible refine (cambiumref01_Take.calls k _ _ l0 a1 t414 t415 t418 _ ?side1 ?side2 A3.out).mono ?_); (case side1 => repeat (first | exact HR0.out | (with_reducible refine Kd.C_alloc ?_ _) | (with_reducible refine Kd.C_drewN ?_ _) | (with_reducible refine Kd.C_drew ?_))); (case side2 => exact HC0.out); rintro e w26 ⟨v416, rfl, ho0, hb⟩; refine ⟨_, rfl, ?_⟩; have n0_ := Aside0.mk (Kd.V_lower (Kd.V_mono (ok' := fun k_ => True) ho0 (fun k_ hk_ => trivial)) (below_size q0_)); have n1_ := Aside0.mk (below_step q0_ hb); clear HB; have HO417 := n0_; have HB := n1_; clear n0_ n1_; (try clear hb); (try clear hb2); (try clear hk); (try clear hi); (try clear ho0)))
  go_ret3
  exact ⟨_, _, by first | rfl | (simp [errW_none, errW_some] <;> rfl) | (simp [*, errW_none, errW_some] <;> rfl), by first | exact Kd.R_nil _ _ _ _ _ | exact Kd.N_nil _ _ _ _ _ | exact Kd.V_nil _ _ _ _ _ | exact Kd.Q_nil _ _ _ _ _ | exact Kd.S_nil _ _ _ _ _, by first | exact Kd.R_nil _ _ _ _ _ | exact Kd.N_nil _ _ _ _ _ | exact Kd.V_nil _ _ _ _ _ | exact Kd.Q_nil _ _ _ _ _ | exact Kd.S_nil _ _ _ _ _, by repeat (first | (with_reducible first | exact HB.out | apply below_alloc | apply pw_below_drewN | apply below_drew1) | exact HB.out)⟩

/-! ### cambiumref01_TakeText: function 40 -/
def cambiumref01_TakeText.f (k : Nat) (l0 : List Int) : Option (ByteArray × List Int × Int) := (cambiumref01_take.f k l0 1).bind fun bt441 => (some (strOfNums bt441.1, bt441.2.1, bt441.2.2))
theorem cambiumref01_TakeText.mono : ∀ a0 k, LeO (cambiumref01_TakeText.f k a0) (cambiumref01_TakeText.f (k + 1) a0) := by
 intro a0 k
 unfold cambiumref01_TakeText.f
 repeat' first
   | (with_reducible exact cambiumref01_take.mono _ _ _)
   | (with_reducible exact LeO.refl _)
   | (with_reducible exact LeO.none _)
   | (with_reducible refine LeO.ite ?_ ?_)
   | (with_reducible refine LeO.bind ?_ (fun _ => ?_))
   | exact cambiumref01_take.mono _ _ _
   | exact LeO.none _
   | refine LeO.ite ?_ ?_
   | refine LeO.bind ?_ (fun _ => ?_)
set_option maxHeartbeats 8000000 in
set_option maxRecDepth 100000 in
theorem cambiumref01_TakeText.calls (k : Nat) (A0 : Option Addr) (c0 : Nat) (l0 : List Int) (r1 : ByteArray) (r2 : List Int) (r3 : Int) (w : World) (hr0 : Kd.C (Kd.int .u8) w A0 l0.length l0) (hc0 : l0.length ≤ c0) (h : cambiumref01_TakeText.f k l0 = some (r1, r2, r3)) :
  Calls Tryd.prog 40 #[.slice A0 l0.length c0] w fun e w' => ∃ v1_ : Value, e = .returned (.tuple #[.string r1, v1_, .int .i64 r3]) ∧ Kd.R (Kd.int .u8) 5 w' w.heap.size (fun _ => True) v1_ r2 ∧ Below w.heap.size w w' := by
 have HR0 := Aside0.mk hr0
 have HC0 := Aside0.mk hc0
 clear hr0 hc0
 have HB := Aside0.mk (Below.refl w.heap.size w)
 have H : ((cambiumref01_take.f k l0 1).bind fun bt441 => (some (strOfNums bt441.1, bt441.2.1, bt441.2.2))) = some (r1, r2, r3) := h
 clear h
 replace H := Option.bind_eq_some_iff.mp H
 obtain ⟨⟨t441, t442, t443⟩, A20, H⟩ := H
 replace H : (some (strOfNums t441, t442, t443)) = some (r1, r2, r3) := H
 have A2 := Aside0.mk A20
 clear A20
 simp only [Option.some.injEq, Prod.mk.injEq] at H
 obtain ⟨rfl, rfl, rfl⟩ := H
 go_enter Tryd.func40, Tryd.ntmps40
 go_wp2_with (first | ((with_reducible refine gate_callee (f := 54) rfl ?_); refine goesL_ (some 10) rfl rfl Tryd.func54 q37_ rfl #[.slice A0 l0.length c0, .int .i64 1] rfl q3_ ?_; (with_reducible refine (cambiumref01_take.calls k _ _ l0 1 t441 t442 t443 _ ?side1 ?side2 A2.out).mono ?_); (case side1 => repeat (first | exact HR0.out | (with_reducible refine Kd.C_alloc ?_ _) | (with_reducible refine Kd.C_drewN ?_ _) | (with_reducible refine Kd.C_drew ?_))); (case side2 => exact HC0.out); rintro e w3 ⟨v444, v446, rfl, ho0, ho1, hb⟩; refine ⟨_, rfl, ?_⟩; have n0_ := Aside0.mk (Kd.R_lower ho0 (below_size q0_)); have n1_ := Aside0.mk (Kd.R_lower ho1 (below_size q0_)); have n2_ := Aside0.mk (below_step q0_ hb); clear HB; have HO445 := n0_; have HO447 := n1_; have HB := n2_; clear n0_ n1_ n2_; (try clear hb); (try clear hb2); (try clear hk); (try clear hi); (try clear ho0); (try clear ho1); (first | (have hcv4 := own_string (P := Tryd.prog) Tryd.underlying35 Tryd.underlying5 Tryd.underlying9 (Kd.own_of_R HO445.out); have hcv4n := fun n_ : Nat => own_string (P := Tryd.prog) Tryd.underlying35 Tryd.underlying5 Tryd.underlying9 (Kd.own_of_R (Kd.R_drewN HO445.out n_))) | (have hcv4 := fun c_ : Nat => Kd.C_string (c := c_) (P := Tryd.prog) Tryd.underlying35 Tryd.underlying5 Tryd.underlying9 (Kd.V_reads' HO445.out).2.2; have hcv4n := fun (c_ n_ : Nat) => Kd.C_string (c := c_) (P := Tryd.prog) Tryd.underlying35 Tryd.underlying5 Tryd.underlying9 (Kd.C_drewN (Kd.V_reads' HO445.out).2.2 n_)) | (have hcv4 := Own.V_string (P := Tryd.prog) Tryd.underlying35 Tryd.underlying5 Tryd.underlying9 HO445.out; have hcv4n := fun (n_ : Nat) => Own.V_string (P := Tryd.prog) Tryd.underlying35 Tryd.underlying5 Tryd.underlying9 (Kd.V_drewN HO445.out n_)))))
 go_ret3
 exact ⟨_, by first | rfl | (simp [errW_none, errW_some] <;> rfl) | (simp [*, errW_none, errW_some] <;> rfl), by (with_reducible repeat (first | apply Kd.R_alloc | apply Kd.R_drewN | apply Kd.R_drew)); exact Kd.R_mono HO447.out (fun _ hk => trivial), by repeat (first | (with_reducible first | exact HB.out | apply below_alloc | apply pw_below_drewN | apply below_drew1) | exact HB.out)⟩

/-! ### cambiumref01_TakeBytes: function 41 -/
def cambiumref01_TakeBytes.f (k : Nat) (l0 : List Int) : Option (List Int × List Int × Int) := (cambiumref01_take.f k l0 2).bind fun bt448 => (some (bt448.1, bt448.2.1, bt448.2.2))
theorem cambiumref01_TakeBytes.mono : ∀ a0 k, LeO (cambiumref01_TakeBytes.f k a0) (cambiumref01_TakeBytes.f (k + 1) a0) := by
 intro a0 k
 unfold cambiumref01_TakeBytes.f
 repeat' first
   | (with_reducible exact cambiumref01_take.mono _ _ _)
   | (with_reducible exact LeO.refl _)
   | (with_reducible exact LeO.none _)
   | (with_reducible refine LeO.ite ?_ ?_)
   | (with_reducible refine LeO.bind ?_ (fun _ => ?_))
   | exact cambiumref01_take.mono _ _ _
   | exact LeO.none _
   | refine LeO.ite ?_ ?_
   | refine LeO.bind ?_ (fun _ => ?_)
set_option maxHeartbeats 8000000 in
set_option maxRecDepth 100000 in
theorem cambiumref01_TakeBytes.calls (k : Nat) (A0 : Option Addr) (c0 : Nat) (l0 : List Int) (r1 : List Int) (r2 : List Int) (r3 : Int) (w : World) (hr0 : Kd.C (Kd.int .u8) w A0 l0.length l0) (hc0 : l0.length ≤ c0) (h : cambiumref01_TakeBytes.f k l0 = some (r1, r2, r3)) :
  Calls Tryd.prog 41 #[.slice A0 l0.length c0] w fun e w' => ∃ v0_ v1_ : Value, e = .returned (.tuple #[v0_, v1_, .int .i64 r3]) ∧ Kd.R (Kd.int .u8) 5 w' w.heap.size (fun k_ => some k_ ≠ (v1_ : Value).ownBlock) v0_ r1 ∧ Kd.R (Kd.int .u8) 5 w' w.heap.size (fun k_ => some k_ ≠ (v0_ : Value).ownBlock) v1_ r2 ∧ Below w.heap.size w w' := by
 have HR0 := Aside0.mk hr0
 have HC0 := Aside0.mk hc0
 clear hr0 hc0
 have HB := Aside0.mk (Below.refl w.heap.size w)
 have H : ((cambiumref01_take.f k l0 2).bind fun bt448 => (some (bt448.1, bt448.2.1, bt448.2.2))) = some (r1, r2, r3) := h
 clear h
 replace H := Option.bind_eq_some_iff.mp H
 obtain ⟨⟨t448, t449, t450⟩, A20, H⟩ := H
 replace H : (some (t448, t449, t450)) = some (r1, r2, r3) := H
 have A2 := Aside0.mk A20
 clear A20
 simp only [Option.some.injEq, Prod.mk.injEq] at H
 obtain ⟨rfl, rfl, rfl⟩ := H
 go_enter Tryd.func41, Tryd.ntmps41
 go_wp2_with (first | ((with_reducible refine gate_callee (f := 54) rfl ?_); refine goesL_ (some 6) rfl rfl Tryd.func54 q37_ rfl #[.slice A0 l0.length c0, .int .i64 2] rfl q3_ ?_; (with_reducible refine (cambiumref01_take.calls k _ _ l0 2 t448 t449 t450 _ ?side1 ?side2 A2.out).mono ?_); (case side1 => repeat (first | exact HR0.out | (with_reducible refine Kd.C_alloc ?_ _) | (with_reducible refine Kd.C_drewN ?_ _) | (with_reducible refine Kd.C_drew ?_))); (case side2 => exact HC0.out); rintro e w3 ⟨v451, v453, rfl, ho0, ho1, hb⟩; refine ⟨_, rfl, ?_⟩; have n0_ := Aside0.mk (Kd.R_lower ho0 (below_size q0_)); have n1_ := Aside0.mk (Kd.R_lower ho1 (below_size q0_)); have n2_ := Aside0.mk (below_step q0_ hb); clear HB; have HO452 := n0_; have HO454 := n1_; have HB := n2_; clear n0_ n1_ n2_; (try clear hb); (try clear hb2); (try clear hk); (try clear hi); (try clear ho0); (try clear ho1)))
 go_ret3
 exact ⟨_, _, by first | rfl | (simp [errW_none, errW_some] <;> rfl) | (simp [*, errW_none, errW_some] <;> rfl), by (with_reducible repeat (first | apply Kd.R_alloc | apply Kd.R_drewN | apply Kd.R_drew)); exact HO452.out, by (with_reducible repeat (first | apply Kd.R_alloc | apply Kd.R_drewN | apply Kd.R_drew)); exact HO454.out, by repeat (first | (with_reducible first | exact HB.out | apply below_alloc | apply pw_below_drewN | apply below_drew1) | exact HB.out)⟩

end Go.Proofs.YtgklipfeheohkaaDoor.P
