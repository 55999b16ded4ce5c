/- Functions and contracts, written by a program (mkprint.py, a wrapper of ours around the print); texts between GIVEN marks are ours. -/
import Derived.Test.YtcjnknpbikfimaaPx0
namespace Go.Proofs.Ytcjnknpbikfimaa.P
open Go.RowKit Go.Proofs.YtcjnknpbikfimaaW.PrintWords Go.Proofs.YtcjnknpbikfimaaW.PrintLast Go.Proofs.YtcjnknpbikfimaaW.PrintMore
attribute [local go_sem] max2_int min2_int max_two min_two max_three min_three max_four min_four   -- for this text's walks alone
set_option linter.unusedVariables false
set_option linter.unusedSimpArgs false
theorem q60_ {P : Prop} (h : P := by repeat (first | (with_reducible first | exact HB.out | apply below_alloc | apply pw_below_drewN | apply below_drew1 | refine below_set ?_ GE629.out) | exact HB.out)) : P := h
theorem q106_ {P : Prop} (h : P := by (with_reducible repeat (first | refine blk_drewN ?_ _ | refine blk_drew ?_ | refine blk_alloc ?_ _)); exact BK629.out) : P := h

/-! ### cambiumref06_Kids: function 21 -/
mutual
def cambiumref06_Kids.l0 : Nat → List Int → Int → Int → List (S52) → List (S57) → Option (List Int)
 | 0, _, _, _, _, _ => none
 | k + 1, x3, x4, x630000, x630001, x630002 => if x4 < (x630002.length : Int) then (if 0 ≤ x4 then (if x3.length < 17592186044416 then (cambiumref06_Kids.l0 k (x3 ++ [(rd_T57 x630002 x4).f1]) (wrap64 (x4 + 1)) x630000 x630001 x630002) else (none)) else (none)) else (cambiumref06_Kids.l1 k x3 0 x630000 x630001 x630002)
def cambiumref06_Kids.l1 : Nat → List Int → Int → Int → List (S52) → List (S57) → Option (List Int)
 | 0, _, _, _, _, _ => none
 | k + 1, x3, x5, x630000, x630001, x630002 => if x5 < (x630001.length : Int) then (if 0 ≤ x5 then (if ((rd_T52 x630001 x5).f0.f1) = 3 then (if (((rd_T52 x630001 x5).f1).length : Int) = 3 then (if 0 < (((rd_T52 x630001 x5).f1).length : Int) then (if (rd ((rd_T52 x630001 x5).f1) 0) = 1 then (if 1 < (((rd_T52 x630001 x5).f1).length : Int) then (if 2 < (((rd_T52 x630001 x5).f1).length : Int) then (if x3.length < 17592186044416 then (cambiumref06_Kids.l1 k (x3 ++ [wrap64 ((wrap64 (256 * (wrap64 (rd ((rd_T52 x630001 x5).f1) 1)))) + (wrap64 (rd ((rd_T52 x630001 x5).f1) 2)))]) (wrap64 (x5 + 1)) x630000 x630001 x630002) else (none)) else (none)) else (none)) else (cambiumref06_Kids.l1 k x3 (wrap64 (x5 + 1)) x630000 x630001 x630002)) else (none)) else (cambiumref06_Kids.l1 k x3 (wrap64 (x5 + 1)) x630000 x630001 x630002)) else (cambiumref06_Kids.l1 k x3 (wrap64 (x5 + 1)) x630000 x630001 x630002)) else (none)) else (some x3)
end
def cambiumref06_Kids.f (k : Nat) (a0_0 : Int) (l0_1 : List (S52)) (l0_2 : List (S57)) : Option (List Int) := cambiumref06_Kids.l0 k (([] : List Int)) 0 a0_0 l0_1 l0_2
theorem cambiumref06_Kids.mono_l : ∀ k, (∀ y0 y1 y2 y3 y4, LeO (cambiumref06_Kids.l0 k y0 y1 y2 y3 y4) (cambiumref06_Kids.l0 (k + 1) y0 y1 y2 y3 y4)) ∧ (∀ y0 y1 y2 y3 y4, LeO (cambiumref06_Kids.l1 k y0 y1 y2 y3 y4) (cambiumref06_Kids.l1 (k + 1) y0 y1 y2 y3 y4))
 | 0 => ⟨fun _ _ _ _ _ r h => by simp [cambiumref06_Kids.l0] at h, fun _ _ _ _ _ r h => by simp [cambiumref06_Kids.l1] at h⟩
 | k + 1 => by
  obtain ⟨ih0, ih1⟩ := cambiumref06_Kids.mono_l k
  refine ⟨?_, ?_⟩
  ·intro y0 y1 y2 y3 y4
   unfold cambiumref06_Kids.l0
   repeat' first
   | (with_reducible exact ih0 _ _ _ _ _)
   | (with_reducible exact ih1 _ _ _ _ _)
   | (with_reducible exact LeO.refl _)
   | (with_reducible exact LeO.none _)
   | (with_reducible refine LeO.ite ?_ ?_)
   | (with_reducible refine LeO.bind ?_ (fun _ => ?_))
   | exact ih0 _ _ _ _ _
   | exact ih1 _ _ _ _ _
   | exact LeO.none _
   | refine LeO.ite ?_ ?_
   | refine LeO.bind ?_ (fun _ => ?_)
  ·intro y0 y1 y2 y3 y4
   unfold cambiumref06_Kids.l1
   repeat' first
   | (with_reducible exact ih0 _ _ _ _ _)
   | (with_reducible exact ih1 _ _ _ _ _)
   | (with_reducible exact LeO.refl _)
   | (with_reducible exact LeO.none _)
   | (with_reducible refine LeO.ite ?_ ?_)
   | (with_reducible refine LeO.bind ?_ (fun _ => ?_))
   | exact ih0 _ _ _ _ _
   | exact ih1 _ _ _ _ _
   | exact LeO.none _
   | refine LeO.ite ?_ ?_
   | refine LeO.bind ?_ (fun _ => ?_)
theorem cambiumref06_Kids.mono : ∀ a0 a1 a2 k, LeO (cambiumref06_Kids.f k a0 a1 a2) (cambiumref06_Kids.f (k + 1) a0 a1 a2) := by
 intro a0 a1 a2 k
 obtain ⟨ih0, ih1⟩ := cambiumref06_Kids.mono_l k
 unfold cambiumref06_Kids.f
 repeat' first
   | (with_reducible exact ih0 _ _ _ _ _)
   | (with_reducible exact ih1 _ _ _ _ _)
   | (with_reducible exact LeO.refl _)
   | (with_reducible exact LeO.none _)
   | (with_reducible refine LeO.ite ?_ ?_)
   | (with_reducible refine LeO.bind ?_ (fun _ => ?_))
   | exact ih0 _ _ _ _ _
   | exact ih1 _ _ _ _ _
   | exact LeO.none _
   | refine LeO.ite ?_ ?_
   | refine LeO.bind ?_ (fun _ => ?_)
def cambiumref06_Kids.T11 : Bool × List (List Nat × List Nat) := (true, [([], []), ([], []), ([1], [1]), ([2], [2]), ([3], [3]), ([4], [4]), ([], []), ([6], [6]), ([7], [7]), ([8], [8]), ([5, 9], [5, 9]), ([10], [10]), ([0, 11], [0, 11]), ([12, 12, 0, 1, 2, 3, 4, 5, 6, 7, 8, 9, 10, 11, 12], [0, 12])])
def cambiumref06_Kids.B11 : List Nat := [0, 0, 2, 6, 14, 30, 0, 64, 192, 448, 1022, 2046, 4095, 8191]
theorem cambiumref06_Kids.tab11 : rtab .any (opsOf Try.f21 11) = cambiumref06_Kids.T11 := by kernel_rfl
theorem cambiumref06_Kids.bits11 : waitsOk cambiumref06_Kids.T11.2 cambiumref06_Kids.B11 = true := by kernel_rfl
set_option maxHeartbeats 8000000 in
set_option maxRecDepth 100000 in
theorem cambiumref06_Kids.calls (k : Nat) (a0_0 : Int) (A0_1 : Option Addr) (c0_1 : Nat) (l0_1 : List (S52)) (A0_2 : Option Addr) (c0_2 : Nat) (l0_2 : List (S57)) (r : List Int) (w : World) (hr0_1 : Kd.C k52 w A0_1 l0_1.length l0_1) (hc0_1 : l0_1.length ≤ c0_1) (hr0_2 : Kd.C k57 w A0_2 l0_2.length l0_2) (hc0_2 : l0_2.length ≤ c0_2) (h : cambiumref06_Kids.f k a0_0 l0_1 l0_2 = some r) :
  Calls Try.prog 21 #[.agg #[.int .i64 a0_0, .slice A0_1 l0_1.length c0_1, .slice A0_2 l0_2.length c0_2]] w fun e w' => ∃ v0_ : Value, e = .returned (v0_) ∧ Kd.R (Kd.int .i64) 3 w' w.heap.size (fun _ => True) v0_ r ∧ Below w.heap.size w w' := by
 have hu25 := Try.underlying25
 have HR0_1 := Aside0.mk hr0_1
 have HC0_1 := Aside0.mk hc0_1
 clear hr0_1 hc0_1
 have HR0_2 := Aside0.mk hr0_2
 have HC0_2 := Aside0.mk hc0_2
 clear hr0_2 hc0_2
 have HB := Aside0.mk (Below.refl w.heap.size w)
 have H : (cambiumref06_Kids.l0 k (([] : List Int)) 0 a0_0 l0_1 l0_2) = some r := h
 clear h
 obtain ⟨y630, hy630⟩ : ∃ y_ : List Int, y_ = (([] : List Int)) := ⟨_, rfl⟩
 replace H : (cambiumref06_Kids.l0 k y630 0 a0_0 l0_1 l0_2) = some r := by first | (rw [hy630]; with_reducible exact H) | (have H2_ := (Option.bind_some _ _).symm.trans H; rw [hy630]; with_reducible exact H2_) | (have H2_ := (Option.bind_some _ _).symm.trans H; with_reducible exact H2_) | with_reducible exact H | (rw [hy630]; exact H) | exact H
 have Ny630 := Aside0.mk hy630
 clear hy630
 have H' := Aside0.mk H
 clear H
 go_enter Try.func21, Try.ntmps21
 go_wp2_with (first | ((with_reducible refine gate_dst (N := 1) rfl ?_); (try (refine gate_guard (by rfl) ?_; dsimp only)); refine box_event ?hg (N := 1) ?hd (cs := #[.int .i64 a0_0, .slice A0_1 l0_1.length c0_1, .slice A0_2 l0_2.length c0_2]) (t := 25) ?hr ?_; (case hd => rfl); (case hg => rfl); (case hr => first | (go_simp; done) | (go_simp; rfl)); intro gb629 hg w2 hbox hb; have n0_ := Aside0.mk (below_step q0_ hb); have n1_ := Aside0.mk (hbox); have n2_ := Aside0.mk ((by rw [hg]; exact (below_size q0_) : w.heap.size ≤ gb629)); have n3_ := Aside0.mk ((by rw [hg]; exact (below_size q0_) : w.heap.size ≤ gb629)); clear HB; have HB := n0_; have BK629 := n1_; have GW629 := n2_; have GE629 := n3_; clear n0_ n1_ n2_ n3_; clear hb hbox hg) | ((with_reducible refine gate_dst (N := 7) rfl ?_); (try (refine gate_guard (by rfl) ?_; dsimp only)); refine Kd.R_lit (Kd.int .i64) _ 3 ?hg (N := 7) ?hd (xs := ([] : List Int)) (inner := []) (ok := fun _ => True) (okp := fun _ => True) ?hr ?hp (fun _ hk => hk) trivial (Below.refl _ _) (Nat.le_refl _) (by simp) ?_; (case hd => rfl); (case hg => rfl); (case hr => first | (go_simp; done) | (go_simp; rfl)); (case hp => exact (Reps.none _ _)); intro v631 w3 ho4 hb hg_ hnew_; clear hg_ hnew_; (first | rw [← Ny630.out] at ho4 | (simp only [Int.reduceToNat] at ho4; rw [← Ny630.out] at ho4)); have n0_ := Aside0.mk (Kd.R_lower ho4 (below_size q60_)); have n1_ := Aside0.mk (blk_below (g := gb629) (o := .cells #[.int .i64 a0_0, .slice A0_1 l0_1.length c0_1, .slice A0_2 l0_2.length c0_2] 25 (0, 0)) q106_ hb); have n2_ := Aside0.mk (below_step q60_ hb); clear BK629; clear HB; have HO632 := n0_; have BK629 := n1_; have HB := n2_; clear n0_ n1_ n2_; clear hb ho4))
 go_loopg [3, 4] k (fun kq v3 v4 w' => ∃ (x3_1 : List Int) (x4_1 : Int), v4 = .int .i64 x4_1 ∧ Aside0 (cambiumref06_Kids.l0 kq x3_1 x4_1 a0_0 l0_1 l0_2 = some r) ∧ Aside0 (kq ≤ k) ∧ Aside0 (Kd.R (Kd.int .i64) 3 w' w.heap.size (fun _ => True) v3 x3_1) ∧ Aside0 (w'.heap[gb629]? = some (.cells #[.int .i64 a0_0, (.slice A0_1 l0_1.length c0_1), (.slice A0_2 l0_2.length c0_2)] 25 (0, 0))) ∧ Aside0 (Below w.heap.size w w'))
 case atStart => exact ⟨(y630), (0), q14_, H', ⟨Nat.le_refl _⟩, ⟨by (with_reducible repeat (first | apply Kd.R_alloc | apply Kd.R_drewN | apply Kd.R_drew)); exact HO632.out⟩, ⟨q106_⟩, ⟨q60_⟩⟩
 case round =>
  clear H'
  try clear c2
  try clear p2
  obtain ⟨x3_1, x4_1, rfl, HA, HK1, HO_3, BK629, HB⟩ := hrel
  cases gk with
  | zero => exact absurd (show none = some _ from HA.out) (by simp)
  | succ k1 =>
   have H := HA.out
   clear HA
   simp only [cambiumref06_Kids.l0] at H
   by_cases c5 : x4_1 < (l0_2.length : Int)
   ·rw [if_pos c5] at H
    have c5b0 : decide (x4_1 < (l0_2.length : Int)) = true := decide_eq_true c5
    clear c5
    by_cases c6 : 0 ≤ x4_1
    ·rw [if_pos c6] at H
     have c6b0 : decide (0 ≤ x4_1) = true := decide_eq_true c6
     clear c6
     by_cases c7 : x3_1.length < 17592186044416
     ·rw [if_pos c7] at H
      have LMc7 := Aside0.mk c7
      clear c7
      obtain ⟨y634, hy634⟩ : ∃ y_ : List Int, y_ = (x3_1 ++ [(rd_T57 l0_2 x4_1).f1]) := ⟨_, rfl⟩
      replace H : (cambiumref06_Kids.l0 k1 y634 (wrap64 (x4_1 + 1)) a0_0 l0_1 l0_2) = some r := by first | (rw [hy634]; with_reducible exact H) | (have H2_ := (Option.bind_some _ _).symm.trans H; rw [hy634]; with_reducible exact H2_) | (have H2_ := (Option.bind_some _ _).symm.trans H; with_reducible exact H2_) | with_reducible exact H | (rw [hy634]; exact H) | exact H
      have Ny634 := Aside0.mk hy634
      clear hy634
      have H' := Aside0.mk H
      clear H
      have hcz8_0 : wr.cell? ⟨gb629, 0, none⟩ = some (.int .i64 a0_0) := (blk_cell BK629.out 0).trans rfl
      have hcz8_1 : wr.cell? ⟨gb629, 1, none⟩ = some (.slice A0_1 l0_1.length c0_1) := (blk_cell BK629.out 1).trans rfl
      have hcz8_2 : wr.cell? ⟨gb629, 2, none⟩ = some (.slice A0_2 l0_2.length c0_2) := (blk_cell BK629.out 2).trans rfl
      have hfz8_0 := blk_frozen BK629.out 0
      have hfz8_1 := blk_frozen BK629.out 1
      have hfz8_2 := blk_frozen BK629.out 2
      have p633 : 0 ≤ (x4_1 : Int) := of_decide_eq_true q4_
      have q633 : x4_1 < (l0_2.length : Int) := of_decide_eq_true q4_
      obtain ⟨ad633, e633, hx633_0, hx633_1, hx633_2, hx633_3⟩ := at_T57 HR0_2.out x4_1 p633 q633
      cases e633
      replace hx633_0 := (HB.out.cell (World.block_lt_of_cell? w _ hx633_0)).trans hx633_0
      replace hx633_1 := (HB.out.cell (World.block_lt_of_cell? w _ hx633_1)).trans hx633_1
      replace hx633_2 := (HB.out.cell (World.block_lt_of_cell? w _ hx633_2)).trans hx633_2
      replace hx633_3 := (HB.out.cell (World.block_lt_of_cell? w _ hx633_3)).trans hx633_3
      replace p633 := eq_true p633
      replace q633 := eq_true q633
      go_wp2_with (first | ((with_reducible refine gate_builtin (b := .append) (xs := #[.tmp 15, .tmp 22]) rfl ?_); (try (refine gate_guard (by rfl) ?_; dsimp only)); at_builtin; refine Kd.R_append (Kd.int .i64) (w0 := w) w.heap.size rfl (.tmp 15) (.tmp 22) 43 3 (.int .i64 0) 8 rfl Try.underlying43 info3 rfl q210_ (by omega) u3 x3_1 ((rd_T57 l0_2 x4_1).f1) [.int .i64 ((rd_T57 l0_2 x4_1).f1)] (fun _ => True) (fun _ => False) rfl rfl ?aP (fun _ hk => hk.elim) ?aF ?aO ?aB ?aS ?aL ?_; (case aP => exact rfl); (case aB => exact q60_); (case aF => exact (fun _ _ => trivial)); (case aO => exact q80_); (case aS => exact (below_size q60_)); (case aL => have := LMc7.out; omega); intro v635 w9 ho hb hg hat; rw [← Ny634.out] at ho; have n0_ := Aside0.mk (blk_grown (g := gb629) (o := .cells #[.int .i64 a0_0, .slice A0_1 l0_1.length c0_1, .slice (some ad633) l0_2.length c0_2] 25 (0, 0)) q106_ hg (Kd.R_ne HO_3.out BK629.out q210_)); have n1_ := Aside0.mk (hb); have n2_ := Aside0.mk (ho); clear BK629; clear HB; clear HO_3; have BK629 := n0_; have HB := n1_; have HO636 := n2_; clear n0_ n1_ n2_; clear ho hb hg hat))
      go_roundg k1
      case measure => have := HK1.out; omega
      case rel => exact ⟨(y634), (wrap64 (x4_1 + 1)), q14_, H', ⟨by have := HK1.out; omega⟩, ⟨by (with_reducible repeat (first | apply Kd.R_alloc | apply Kd.R_drewN | apply Kd.R_drew)); exact HO636.out⟩, ⟨q106_⟩, ⟨q60_⟩⟩
     ·rw [if_neg c7] at H
      exact absurd H (by simp)
    ·rw [if_neg c6] at H
     exact absurd H (by simp)
   ·rw [if_neg c5] at H
    have c5b0 : decide (x4_1 < (l0_2.length : Int)) = false := decide_eq_false c5
    clear c5
    have H' := Aside0.mk H
    clear H
    have hcz10_0 : wr.cell? ⟨gb629, 0, none⟩ = some (.int .i64 a0_0) := (blk_cell BK629.out 0).trans rfl
    have hcz10_1 : wr.cell? ⟨gb629, 1, none⟩ = some (.slice A0_1 l0_1.length c0_1) := (blk_cell BK629.out 1).trans rfl
    have hcz10_2 : wr.cell? ⟨gb629, 2, none⟩ = some (.slice A0_2 l0_2.length c0_2) := (blk_cell BK629.out 2).trans rfl
    have hfz10_0 := blk_frozen BK629.out 0
    have hfz10_1 := blk_frozen BK629.out 1
    have hfz10_2 := blk_frozen BK629.out 2
    go_wp2
    go_loopg [3, 5] k1 (fun kq v3 v5 w' => ∃ (x3_2 : List Int) (x5_2 : Int), v5 = .int .i64 x5_2 ∧ Aside0 (cambiumref06_Kids.l1 kq x3_2 x5_2 a0_0 l0_1 l0_2 = some r) ∧ Aside0 (kq ≤ k1) ∧ Aside0 (Kd.R (Kd.int .i64) 3 w' w.heap.size (fun _ => True) v3 x3_2) ∧ Aside0 (w'.heap[gb629]? = some (.cells #[.int .i64 a0_0, (.slice A0_1 l0_1.length c0_1), (.slice A0_2 l0_2.length c0_2)] 25 (0, 0))) ∧ Aside0 (Below w.heap.size w w'))
    case atStart => exact ⟨(x3_1), (0), q14_, H', ⟨Nat.le_refl _⟩, ⟨q80_⟩, ⟨q106_⟩, ⟨q60_⟩⟩
    case round =>
     clear H'
     try clear c2
     try clear p2
     try clear c5
     try clear c5b0
     try clear c6
     try clear c6b0
     try clear p6
     try clear q6
     try clear hx6
     try clear c7
     try clear hcz10_0
     try clear hcz10_1
     try clear hcz10_2
     try clear hcz8_0
     try clear hcz8_1
     try clear hcz8_2
     try clear hfz10_0
     try clear hfz10_1
     try clear hfz10_2
     try clear hfz8_0
     try clear hfz8_1
     try clear hfz8_2
     try clear hx633_0
     try clear hx633_1
     try clear hx633_2
     try clear hx633_3
     try clear p2
     try clear p633
     try clear q633
     obtain ⟨x3_2, x5_2, rfl, HA, HK2, HO_3, BK629, HB⟩ := hrel
     cases gk with
     | zero => exact absurd (show none = some _ from HA.out) (by simp)
     | succ k2 =>
      have H := HA.out
      clear HA
      simp only [cambiumref06_Kids.l1] at H
      by_cases c11 : x5_2 < (l0_1.length : Int)
      ·rw [if_pos c11] at H
       have c11b0 : decide (x5_2 < (l0_1.length : Int)) = true := decide_eq_true c11
       clear c11
       by_cases c12 : 0 ≤ x5_2
       ·rw [if_pos c12] at H
        have c12b0 : decide (0 ≤ x5_2) = true := decide_eq_true c12
        clear c12
        by_cases c13 : ((rd_T52 l0_1 x5_2).f0.f1) = 3
        ·rw [if_pos c13] at H
         have c13b0 : (((rd_T52 l0_1 x5_2).f0.f1) == 3) = true := beq_iff_eq.mpr c13
         have c13b1 : (((rd_T52 l0_1 x5_2).f0.f1) != 3) = false := bne_eq_false_iff_eq.mpr c13
         clear c13
         by_cases c14 : (((rd_T52 l0_1 x5_2).f1).length : Int) = 3
         ·rw [if_pos c14] at H
          have c14b0 : ((((rd_T52 l0_1 x5_2).f1).length : Int) == 3) = true := beq_iff_eq.mpr c14
          have c14b1 : ((((rd_T52 l0_1 x5_2).f1).length : Int) != 3) = false := bne_eq_false_iff_eq.mpr c14
          clear c14
          by_cases c15 : 0 < (((rd_T52 l0_1 x5_2).f1).length : Int)
          ·rw [if_pos c15] at H
           have c15b0 : decide (0 < (((rd_T52 l0_1 x5_2).f1).length : Int)) = true := decide_eq_true c15
           have c15b1 : decide (0 < ((rd_T52 l0_1 x5_2).f1).length) = true := decide_eq_true (by omega)
           clear c15
           by_cases c16 : (rd ((rd_T52 l0_1 x5_2).f1) 0) = 1
           ·rw [if_pos c16] at H
            have c16b0 : ((rd ((rd_T52 l0_1 x5_2).f1) 0) == 1) = true := beq_iff_eq.mpr c16
            have c16b1 : ((rd ((rd_T52 l0_1 x5_2).f1) 0) != 1) = false := bne_eq_false_iff_eq.mpr c16
            clear c16
            by_cases c17 : 1 < (((rd_T52 l0_1 x5_2).f1).length : Int)
            ·rw [if_pos c17] at H
             have c17b0 : decide (1 < (((rd_T52 l0_1 x5_2).f1).length : Int)) = true := decide_eq_true c17
             have c17b1 : decide (1 < ((rd_T52 l0_1 x5_2).f1).length) = true := decide_eq_true (by omega)
             clear c17
             by_cases c18 : 2 < (((rd_T52 l0_1 x5_2).f1).length : Int)
             ·rw [if_pos c18] at H
              have c18b0 : decide (2 < (((rd_T52 l0_1 x5_2).f1).length : Int)) = true := decide_eq_true c18
              have c18b1 : decide (2 < ((rd_T52 l0_1 x5_2).f1).length) = true := decide_eq_true (by omega)
              clear c18
              by_cases c19 : x3_2.length < 17592186044416
              ·rw [if_pos c19] at H
               have LMc19 := Aside0.mk c19
               clear c19
               obtain ⟨y642, hy642⟩ : ∃ y_ : List Int, y_ = (x3_2 ++ [wrap64 ((wrap64 (256 * (wrap64 (rd ((rd_T52 l0_1 x5_2).f1) 1)))) + (wrap64 (rd ((rd_T52 l0_1 x5_2).f1) 2)))]) := ⟨_, rfl⟩
               replace H : (cambiumref06_Kids.l1 k2 y642 (wrap64 (x5_2 + 1)) a0_0 l0_1 l0_2) = some r := by first | (rw [hy642]; with_reducible exact H) | (have H2_ := (Option.bind_some _ _).symm.trans H; rw [hy642]; with_reducible exact H2_) | (have H2_ := (Option.bind_some _ _).symm.trans H; with_reducible exact H2_) | with_reducible exact H | (rw [hy642]; exact H) | exact H
               have Ny642 := Aside0.mk hy642
               clear hy642
               have H' := Aside0.mk H
               clear H
               have hcz20_0 : wr.cell? ⟨gb629, 0, none⟩ = some (.int .i64 a0_0) := (blk_cell BK629.out 0).trans rfl
               have hcz20_1 : wr.cell? ⟨gb629, 1, none⟩ = some (.slice A0_1 l0_1.length c0_1) := (blk_cell BK629.out 1).trans rfl
               have hcz20_2 : wr.cell? ⟨gb629, 2, none⟩ = some (.slice A0_2 l0_2.length c0_2) := (blk_cell BK629.out 2).trans rfl
               have hfz20_0 := blk_frozen BK629.out 0
               have hfz20_1 := blk_frozen BK629.out 1
               have hfz20_2 := blk_frozen BK629.out 2
               have p637 : 0 ≤ (x5_2 : Int) := of_decide_eq_true q4_
               have q637 : x5_2 < (l0_1.length : Int) := of_decide_eq_true q4_
               obtain ⟨ad637, A637_3, c637_3, e637, hx637_0, hx637_1, hx637_2, hx637_3, hl637_3, hi637_3⟩ := at_T52 HR0_1.out x5_2 p637 q637
               cases e637
               replace hx637_0 := (HB.out.cell (World.block_lt_of_cell? w _ hx637_0)).trans hx637_0
               replace hx637_1 := (HB.out.cell (World.block_lt_of_cell? w _ hx637_1)).trans hx637_1
               replace hx637_2 := (HB.out.cell (World.block_lt_of_cell? w _ hx637_2)).trans hx637_2
               replace hx637_3 := (HB.out.cell (World.block_lt_of_cell? w _ hx637_3)).trans hx637_3
               have HR637_3 := Aside0.mk hi637_3
               have HC637_3 := Aside0.mk hl637_3
               clear hi637_3 hl637_3
               replace p637 := eq_true p637
               replace q637 := eq_true q637
               have p638 : 0 ≤ (x5_2 : Int) := of_decide_eq_true q4_
               have q638 : x5_2 < (l0_1.length : Int) := of_decide_eq_true q4_
               obtain ⟨ad638, A638_3, c638_3, e638, hx638_0, hx638_1, hx638_2, hx638_3, hl638_3, hi638_3⟩ := at_T52 HR0_1.out x5_2 p638 q638
               obtain rfl : ad637 = ad638 := (by injection e638)
               replace hx638_0 := (HB.out.cell (World.block_lt_of_cell? w _ hx638_0)).trans hx638_0
               replace hx638_1 := (HB.out.cell (World.block_lt_of_cell? w _ hx638_1)).trans hx638_1
               replace hx638_2 := (HB.out.cell (World.block_lt_of_cell? w _ hx638_2)).trans hx638_2
               replace hx638_3 := (HB.out.cell (World.block_lt_of_cell? w _ hx638_3)).trans hx638_3
               have HR638_3 := Aside0.mk hi638_3
               have HC638_3 := Aside0.mk hl638_3
               clear hi638_3 hl638_3
               replace p638 := eq_true p638
               replace q638 := eq_true q638
               have ea_ := Option.some.inj (hx637_3.symm.trans hx638_3)
               injection ea_ with ea_ en_ ec_
               subst ea_
               subst ec_
               clear en_
               have p639 : 0 ≤ (0 : Int) := (by omega)
               have q639 : 0 < (((rd_T52 l0_1 x5_2).f1).length : Int) := of_decide_eq_true q4_
               obtain ⟨ad639, e639, hx639_0⟩ := Kd.at_int HR637_3.out 0 p639 q639
               cases e639
               have qi639 : (0 < ((rd_T52 l0_1 x5_2).f1).length) = True := eq_true (by omega)
               (try rw [show ((0 : Int)).toNat = 0 from rfl] at hx639_0)
               (try rw [Addr.add_zero'] at hx639_0)
               replace hx639_0 := (HB.out.cell (World.block_lt_of_cell? w _ hx639_0)).trans hx639_0
               replace p639 := eq_true p639
               replace q639 := eq_true q639
               try go_wp2
               have n0_ := Aside0.mk (Kd.R_drew HO_3.out)
               have n1_ := Aside0.mk (blk_drew BK629.out)
               have n2_ := Aside0.mk (below_drew1 HB.out)
               clear HO_3
               clear BK629
               clear HB
               have HO_3 := n0_
               have BK629 := n1_
               have HB := n2_
               clear n0_ n1_ n2_
               have p640 : 0 ≤ (1 : Int) := (by omega)
               have q640 : 1 < (((rd_T52 l0_1 x5_2).f1).length : Int) := of_decide_eq_true q4_
               obtain ⟨ad640, e640, hx640_0⟩ := Kd.at_int HR637_3.out 1 p640 q640
               have hw640_0 := hx640_0
               (try rw [show ((1 : Int)).toNat = 1 from rfl] at hw640_0)
               (try rw [show 1 * 1 = 1 from rfl] at hw640_0)
               (try simp only [Nat.reduceMul, Nat.reduceEqDiff, Go.Addr.add, ↓reduceIte] at hw640_0)
               obtain rfl : ad639 = ad640 := (by injection e640)
               (try simp only [show (1 : Int).toNat = 1 from rfl, Nat.reduceMul, Nat.reduceEqDiff, Go.Addr.add, ↓reduceIte] at hx640_0)
               have qi640 : (1 < ((rd_T52 l0_1 x5_2).f1).length) = True := eq_true (by omega)
               (try rw [show ((1 : Int)).toNat = 1 from rfl] at hx640_0)
               replace hx640_0 := (HB.out.cell (World.block_lt_of_cell? w _ hx640_0)).trans hx640_0
               replace p640 := eq_true p640
               replace q640 := eq_true q640
               have p641 : 0 ≤ (2 : Int) := (by omega)
               have q641 : 2 < (((rd_T52 l0_1 x5_2).f1).length : Int) := of_decide_eq_true q4_
               obtain ⟨ad641, e641, hx641_0⟩ := Kd.at_int HR637_3.out 2 p641 q641
               have hw641_0 := hx641_0
               (try rw [show ((2 : Int)).toNat = 2 from rfl] at hw641_0)
               (try rw [show 2 * 1 = 2 from rfl] at hw641_0)
               (try simp only [Nat.reduceMul, Nat.reduceEqDiff, Go.Addr.add, ↓reduceIte] at hw641_0)
               obtain rfl : ad639 = ad641 := (by injection e641)
               (try simp only [show (2 : Int).toNat = 2 from rfl, Nat.reduceMul, Nat.reduceEqDiff, Go.Addr.add, ↓reduceIte] at hx641_0)
               have qi641 : (2 < ((rd_T52 l0_1 x5_2).f1).length) = True := eq_true (by omega)
               (try rw [show ((2 : Int)).toNat = 2 from rfl] at hx641_0)
               replace hx641_0 := (HB.out.cell (World.block_lt_of_cell? w _ hx641_0)).trans hx641_0
               replace p641 := eq_true p641
               replace q641 := eq_true q641
               refine start_ (n := 14) (S := fun w' => w'.cell? ⟨ad639.block, ad639.off + 1, none⟩ = some (.int .u8 (rd ((rd_T52 l0_1 x5_2).f1) 1)) ∧ w'.cell? ⟨ad639.block, ad639.off + 2, none⟩ = some (.int .u8 (rd ((rd_T52 l0_1 x5_2).f1) 2))) (ds := []) (bl_ 14 0) q8_ rfl rfl ⟨((HB.out.cell (World.block_lt_of_cell? w _ hw640_0)).trans hw640_0), ((HB.out.cell (World.block_lt_of_cell? w _ hw641_0)).trans hw641_0)⟩ (fun hHeld => ?_); refine with_tabW cambiumref06_Kids.tab11 cambiumref06_Kids.bits11 (fun HT_ HW_ => ?_)
               generalize wr.drew = w21 at HO_3 BK629 HB hx640_0 hx641_0 hHeld ⊢
               refine pure_ (i := 0) (N := some 56) (v := ?_) (a' := ?_) (bl_ 14 1) rfl rfl (any_of HT_.out q8_) (fun _ _ _ h => h) (Or.inl ⟨by rfl, ?_⟩) ?_ ?_
               rotate_left
               ·intro w'
                go_simp
                with_reducible rfl
               rotate_left
               ·simp only [Act.put, List.setIfInBounds_toArray, List.set_cons_zero, List.set_cons_succ, i64_w, i32_w]
                rfl
               refine pure_ (i := 1) (N := some 57) (v := ?_) (a' := ?_) (bl_ 14 3) rfl rfl (any_of HT_.out q8_) (fun _ _ _ h => h) (Or.inl ⟨by rfl, ?_⟩) ?_ ?_
               rotate_left
               ·intro w'
                go_simp
                with_reducible rfl
               rotate_left
               ·simp only [Act.put, List.setIfInBounds_toArray, List.set_cons_zero, List.set_cons_succ, i64_w, i32_w]
                rfl
               refine pure_ (i := 2) (N := some 58) (v := ?_) (a' := ?_) (bl_ 14 7) rfl rfl (any_of HT_.out q8_) (fun _ _ _ h => h) (Or.inl ⟨by rfl, ?_⟩) ?_ ?_
               rotate_left
               ·intro w'
                go_simp
                with_reducible rfl
               rotate_left
               ·simp only [Act.put, List.setIfInBounds_toArray, List.set_cons_zero, List.set_cons_succ, i64_w, i32_w]
                rfl
               refine pure_ (i := 6) (N := some 62) (v := ?_) (a' := ?_) (bl_ 14 71) rfl rfl (any_of HT_.out q8_) (fun _ _ _ h => h) (Or.inl ⟨by rfl, ?_⟩) ?_ ?_
               rotate_left
               ·intro w'
                go_simp
                with_reducible rfl
               rotate_left
               ·simp only [Act.put, List.setIfInBounds_toArray, List.set_cons_zero, List.set_cons_succ, i64_w, i32_w]
                rfl
               refine pure_ (i := 7) (N := some 63) (v := ?_) (a' := ?_) (bl_ 14 199) rfl rfl (any_of HT_.out q8_) (fun _ _ _ h => h) (Or.inl ⟨by rfl, ?_⟩) ?_ ?_
               rotate_left
               ·intro w'
                go_simp
                with_reducible rfl
               rotate_left
               ·simp only [Act.put, List.setIfInBounds_toArray, List.set_cons_zero, List.set_cons_succ, i64_w, i32_w]
                rfl
               refine take_ (i := 3) (N := some 59) (v := ?_) (a' := ?_) (bl_ 14 207) rfl rfl (take_ofW HT_.out HW_.out q8_) (fun _ _ _ h => h) (Or.inl ⟨by rfl, ?_⟩) hHeld ?_ ?_
               rotate_left
               ·rintro w' ⟨s0, s1⟩
                go_simp
                with_reducible rfl
               rotate_left
               ·simp only [Act.put, List.setIfInBounds_toArray, List.set_cons_zero, List.set_cons_succ, i64_w, i32_w]
                rfl
               refine pure_ (i := 4) (N := some 60) (v := ?_) (a' := ?_) (bl_ 14 223) rfl rfl (any_of HT_.out q8_) (fun _ _ _ h => h) (Or.inl ⟨by rfl, ?_⟩) ?_ ?_
               rotate_left
               ·intro w'
                go_simp
                with_reducible rfl
               rotate_left
               ·simp only [Act.put, List.setIfInBounds_toArray, List.set_cons_zero, List.set_cons_succ, i64_w, i32_w]
                rfl
               refine pure_ (i := 5) (N := some 61) (v := ?_) (a' := ?_) (bl_ 14 255) rfl rfl (any_of HT_.out q8_) (fun _ _ _ h => h) (Or.inl ⟨by rfl, ?_⟩) ?_ ?_
               rotate_left
               ·intro w'
                go_simp
                with_reducible rfl
               rotate_left
               ·simp only [Act.put, List.setIfInBounds_toArray, List.set_cons_zero, List.set_cons_succ, i64_w, i32_w]
                rfl
               refine take_ (i := 8) (N := some 64) (v := ?_) (a' := ?_) (bl_ 14 511) rfl rfl (take_ofW HT_.out HW_.out q8_) (fun _ _ _ h => h) (Or.inl ⟨by rfl, ?_⟩) hHeld ?_ ?_
               rotate_left
               ·rintro w' ⟨s0, s1⟩
                go_simp
                with_reducible rfl
               rotate_left
               ·simp only [Act.put, List.setIfInBounds_toArray, List.set_cons_zero, List.set_cons_succ, i64_w, i32_w]
                rfl
               refine pure_ (i := 9) (N := some 65) (v := ?_) (a' := ?_) (bl_ 14 1023) rfl rfl (any_of HT_.out q8_) (fun _ _ _ h => h) (Or.inl ⟨by rfl, ?_⟩) ?_ ?_
               rotate_left
               ·intro w'
                go_simp
                with_reducible rfl
               rotate_left
               ·simp only [Act.put, List.setIfInBounds_toArray, List.set_cons_zero, List.set_cons_succ, i64_w, i32_w]
                rfl
               refine pure_ (i := 10) (N := some 66) (v := ?_) (a' := ?_) (bl_ 14 2047) rfl rfl (any_of HT_.out q8_) (fun _ _ _ h => h) (Or.inl ⟨by rfl, ?_⟩) ?_ ?_
               rotate_left
               ·intro w'
                go_simp
                with_reducible rfl
               rotate_left
               ·simp only [Act.put, List.setIfInBounds_toArray, List.set_cons_zero, List.set_cons_succ, i64_w, i32_w]
                rfl
               refine one_ (i := 11) (N := some 67) (bl_ 14 4095) rfl rfl (one_of HT_.out q8_) q210_ (fun K hK => ?_)
               refine value_ (w1 := ?_) (v := ?_) (by rfl) rfl ?_ ?_
               rotate_left 2
               ·go_simp
                constructor
                ·rfl
                ·rfl
               refine hK.out _ _ ⟨(World.cell?_alloc_lt _ _ _ (World.block_lt_of_cell? _ _ (((HB.out.cell (World.block_lt_of_cell? w _ hw640_0)).trans hw640_0)))).trans (((HB.out.cell (World.block_lt_of_cell? w _ hw640_0)).trans hw640_0)), (World.cell?_alloc_lt _ _ _ (World.block_lt_of_cell? _ _ (((HB.out.cell (World.block_lt_of_cell? w _ hw641_0)).trans hw641_0)))).trans (((HB.out.cell (World.block_lt_of_cell? w _ hw641_0)).trans hw641_0))⟩ (fun hHeld => ?_)
               clear hK K
               refine norm_ (a' := ?_) ?_ ?_
               rotate_left
               ·show Act.put _ (some 67) _ = _
                simp only [Act.put, List.setIfInBounds_toArray, List.set_cons_zero, List.set_cons_succ, i64_w, i32_w]
                rfl
               refine one_ (i := 12) (N := some 68) (bl_ 14 8191) rfl rfl (one_of HT_.out q8_) q210_ (fun K hK => ?_)
               refine Kd.R_append_step (Kd.int .i64) (w0 := w) w.heap.size (by rfl) (.tmp 56) (.tmp 67) 43 3 (.int .i64 0) 8 rfl Try.underlying43 info3 rfl q210_ (by omega) u3 x3_2 (wrap64 ((wrap64 (256 * (wrap64 (rd ((rd_T52 l0_1 x5_2).f1) 1)))) + (wrap64 (rd ((rd_T52 l0_1 x5_2).f1) 2)))) [.int .i64 (wrap64 ((wrap64 (256 * (wrap64 (rd ((rd_T52 l0_1 x5_2).f1) 1)))) + (wrap64 (rd ((rd_T52 l0_1 x5_2).f1) 2))))] (fun _ => True) (fun _ => False) rfl rfl ?aP (fun _ hk => hk.elim) ?aF ?aO ?aB ?aS ?aL ?_
               (case aP => exact rfl)
               (case aB => exact q60_)
               (case aF => exact (fun _ _ => trivial))
               (case aO => exact q80_)
               (case aS => exact (below_size q60_))
               (case aL => have := LMc19.out; omega)
               intro v643 w22 ho hb hg hat
               rw [← Ny642.out] at ho
               have n0_ := Aside0.mk (blk_grown (g := gb629) (o := .cells #[.int .i64 a0_0, .slice (some ad637) l0_1.length c0_1, .slice A0_2 l0_2.length c0_2] 25 (0, 0)) q106_ hg (Kd.R_ne HO_3.out BK629.out q210_))
               have n1_ := Aside0.mk (hb)
               have n2_ := Aside0.mk (ho)
               clear BK629
               clear HB
               clear HO_3
               have BK629 := n0_
               have HB := n1_
               have HO644 := n2_
               clear n0_ n1_ n2_
               clear ho hb hg hat
               refine hK.out _ _ ⟨((HB.out.cell (World.block_lt_of_cell? w _ hw640_0)).trans hw640_0), ((HB.out.cell (World.block_lt_of_cell? w _ hw641_0)).trans hw641_0)⟩ (fun hHeld => ?_)
               clear hK K
               refine norm_ (a' := ?_) ?_ ?_
               rotate_left
               ·show Act.put _ (some 68) _ = _
                simp only [Act.put, List.setIfInBounds_toArray, List.set_cons_zero, List.set_cons_succ, i64_w, i32_w]
                rfl
               refine pure_ (i := 13) (N := some 3) (v := ?_) (a' := ?_) (bl_ 14 16383) rfl rfl (any_of HT_.out q8_) (fun _ _ _ h => h) (Or.inl ⟨by rfl, ?_⟩) ?_ ?_
               rotate_left
               ·intro w'
                go_simp
                with_reducible rfl
               rotate_left
               ·simp only [Act.put, List.setIfInBounds_toArray, List.set_cons_zero, List.set_cons_succ, i64_w, i32_w]
                rfl
               refine done_ (done_of HT_.out q8_) ?_
               try go_wp2
               go_roundg k2
               case measure => have := HK1.out; have := HK2.out; omega
               case rel => exact ⟨(y642), (wrap64 (x5_2 + 1)), q14_, H', ⟨q189_⟩, ⟨by (with_reducible repeat (first | apply Kd.R_alloc | apply Kd.R_drewN | apply Kd.R_drew)); exact HO644.out⟩, ⟨q106_⟩, ⟨q60_⟩⟩
              ·rw [if_neg c19] at H
               exact absurd H (by simp)
             ·rw [if_neg c18] at H
              exact absurd H (by simp)
            ·rw [if_neg c17] at H
             exact absurd H (by simp)
           ·rw [if_neg c16] at H
            have c16b0 : ((rd ((rd_T52 l0_1 x5_2).f1) 0) == 1) = false := beq_eq_false_iff_ne.mpr c16
            have c16b1 : ((rd ((rd_T52 l0_1 x5_2).f1) 0) != 1) = true := bne_iff_ne.mpr c16
            have H' := Aside0.mk H
            clear H
            have hcz23_0 : wr.cell? ⟨gb629, 0, none⟩ = some (.int .i64 a0_0) := (blk_cell BK629.out 0).trans rfl
            have hcz23_1 : wr.cell? ⟨gb629, 1, none⟩ = some (.slice A0_1 l0_1.length c0_1) := (blk_cell BK629.out 1).trans rfl
            have hcz23_2 : wr.cell? ⟨gb629, 2, none⟩ = some (.slice A0_2 l0_2.length c0_2) := (blk_cell BK629.out 2).trans rfl
            have hfz23_0 := blk_frozen BK629.out 0
            have hfz23_1 := blk_frozen BK629.out 1
            have hfz23_2 := blk_frozen BK629.out 2
            have p637 : 0 ≤ (x5_2 : Int) := of_decide_eq_true q4_
            have q637 : x5_2 < (l0_1.length : Int) := of_decide_eq_true q4_
            obtain ⟨ad637, A637_3, c637_3, e637, hx637_0, hx637_1, hx637_2, hx637_3, hl637_3, hi637_3⟩ := at_T52 HR0_1.out x5_2 p637 q637
            cases e637
            replace hx637_0 := (HB.out.cell (World.block_lt_of_cell? w _ hx637_0)).trans hx637_0
            replace hx637_1 := (HB.out.cell (World.block_lt_of_cell? w _ hx637_1)).trans hx637_1
            replace hx637_2 := (HB.out.cell (World.block_lt_of_cell? w _ hx637_2)).trans hx637_2
            replace hx637_3 := (HB.out.cell (World.block_lt_of_cell? w _ hx637_3)).trans hx637_3
            have HR637_3 := Aside0.mk hi637_3
            have HC637_3 := Aside0.mk hl637_3
            clear hi637_3 hl637_3
            replace p637 := eq_true p637
            replace q637 := eq_true q637
            have p638 : 0 ≤ (x5_2 : Int) := of_decide_eq_true q4_
            have q638 : x5_2 < (l0_1.length : Int) := of_decide_eq_true q4_
            obtain ⟨ad638, A638_3, c638_3, e638, hx638_0, hx638_1, hx638_2, hx638_3, hl638_3, hi638_3⟩ := at_T52 HR0_1.out x5_2 p638 q638
            obtain rfl : ad637 = ad638 := (by injection e638)
            replace hx638_0 := (HB.out.cell (World.block_lt_of_cell? w _ hx638_0)).trans hx638_0
            replace hx638_1 := (HB.out.cell (World.block_lt_of_cell? w _ hx638_1)).trans hx638_1
            replace hx638_2 := (HB.out.cell (World.block_lt_of_cell? w _ hx638_2)).trans hx638_2
            replace hx638_3 := (HB.out.cell (World.block_lt_of_cell? w _ hx638_3)).trans hx638_3
            have HR638_3 := Aside0.mk hi638_3
            have HC638_3 := Aside0.mk hl638_3
            clear hi638_3 hl638_3
            replace p638 := eq_true p638
            replace q638 := eq_true q638
            have ea_ := Option.some.inj (hx637_3.symm.trans hx638_3)
            injection ea_ with ea_ en_ ec_
            subst ea_
            subst ec_
            clear en_
            have p639 : 0 ≤ (0 : Int) := (by omega)
            have q639 : 0 < (((rd_T52 l0_1 x5_2).f1).length : Int) := of_decide_eq_true q4_
            obtain ⟨ad639, e639, hx639_0⟩ := Kd.at_int HR637_3.out 0 p639 q639
            cases e639
            have qi639 : (0 < ((rd_T52 l0_1 x5_2).f1).length) = True := eq_true (by omega)
            (try rw [show ((0 : Int)).toNat = 0 from rfl] at hx639_0)
            (try rw [Addr.add_zero'] at hx639_0)
            replace hx639_0 := (HB.out.cell (World.block_lt_of_cell? w _ hx639_0)).trans hx639_0
            replace p639 := eq_true p639
            replace q639 := eq_true q639
            go_wp2
            go_roundg k2
            case measure => have := HK1.out; have := HK2.out; omega
            case rel => exact ⟨(x3_2), (wrap64 (x5_2 + 1)), q14_, H', ⟨q189_⟩, ⟨q80_⟩, ⟨q106_⟩, ⟨q60_⟩⟩
          ·rw [if_neg c15] at H
           exact absurd H (by simp)
         ·rw [if_neg c14] at H
          have c14b0 : ((((rd_T52 l0_1 x5_2).f1).length : Int) == 3) = false := beq_eq_false_iff_ne.mpr c14
          have c14b1 : ((((rd_T52 l0_1 x5_2).f1).length : Int) != 3) = true := bne_iff_ne.mpr c14
          have H' := Aside0.mk H
          clear H
          have hcz24_0 : wr.cell? ⟨gb629, 0, none⟩ = some (.int .i64 a0_0) := (blk_cell BK629.out 0).trans rfl
          have hcz24_1 : wr.cell? ⟨gb629, 1, none⟩ = some (.slice A0_1 l0_1.length c0_1) := (blk_cell BK629.out 1).trans rfl
          have hcz24_2 : wr.cell? ⟨gb629, 2, none⟩ = some (.slice A0_2 l0_2.length c0_2) := (blk_cell BK629.out 2).trans rfl
          have hfz24_0 := blk_frozen BK629.out 0
          have hfz24_1 := blk_frozen BK629.out 1
          have hfz24_2 := blk_frozen BK629.out 2
          have p637 : 0 ≤ (x5_2 : Int) := of_decide_eq_true q4_
          have q637 : x5_2 < (l0_1.length : Int) := of_decide_eq_true q4_
          obtain ⟨ad637, A637_3, c637_3, e637, hx637_0, hx637_1, hx637_2, hx637_3, hl637_3, hi637_3⟩ := at_T52 HR0_1.out x5_2 p637 q637
          cases e637
          replace hx637_0 := (HB.out.cell (World.block_lt_of_cell? w _ hx637_0)).trans hx637_0
          replace hx637_1 := (HB.out.cell (World.block_lt_of_cell? w _ hx637_1)).trans hx637_1
          replace hx637_2 := (HB.out.cell (World.block_lt_of_cell? w _ hx637_2)).trans hx637_2
          replace hx637_3 := (HB.out.cell (World.block_lt_of_cell? w _ hx637_3)).trans hx637_3
          have HR637_3 := Aside0.mk hi637_3
          have HC637_3 := Aside0.mk hl637_3
          clear hi637_3 hl637_3
          replace p637 := eq_true p637
          replace q637 := eq_true q637
          have p638 : 0 ≤ (x5_2 : Int) := of_decide_eq_true q4_
          have q638 : x5_2 < (l0_1.length : Int) := of_decide_eq_true q4_
          obtain ⟨ad638, A638_3, c638_3, e638, hx638_0, hx638_1, hx638_2, hx638_3, hl638_3, hi638_3⟩ := at_T52 HR0_1.out x5_2 p638 q638
          obtain rfl : ad637 = ad638 := (by injection e638)
          replace hx638_0 := (HB.out.cell (World.block_lt_of_cell? w _ hx638_0)).trans hx638_0
          replace hx638_1 := (HB.out.cell (World.block_lt_of_cell? w _ hx638_1)).trans hx638_1
          replace hx638_2 := (HB.out.cell (World.block_lt_of_cell? w _ hx638_2)).trans hx638_2
          replace hx638_3 := (HB.out.cell (World.block_lt_of_cell? w _ hx638_3)).trans hx638_3
          have HR638_3 := Aside0.mk hi638_3
          have HC638_3 := Aside0.mk hl638_3
          clear hi638_3 hl638_3
          replace p638 := eq_true p638
          replace q638 := eq_true q638
          have ea_ := Option.some.inj (hx637_3.symm.trans hx638_3)
          injection ea_ with ea_ en_ ec_
          subst ea_
          subst ec_
          clear en_
          go_wp2
          go_roundg k2
          case measure => have := HK1.out; have := HK2.out; omega
          case rel => exact ⟨(x3_2), (wrap64 (x5_2 + 1)), q14_, H', ⟨q189_⟩, ⟨q80_⟩, ⟨q106_⟩, ⟨q60_⟩⟩
        ·rw [if_neg c13] at H
         have c13b0 : (((rd_T52 l0_1 x5_2).f0.f1) == 3) = false := beq_eq_false_iff_ne.mpr c13
         have c13b1 : (((rd_T52 l0_1 x5_2).f0.f1) != 3) = true := bne_iff_ne.mpr c13
         have H' := Aside0.mk H
         clear H
         have hcz25_0 : wr.cell? ⟨gb629, 0, none⟩ = some (.int .i64 a0_0) := (blk_cell BK629.out 0).trans rfl
         have hcz25_1 : wr.cell? ⟨gb629, 1, none⟩ = some (.slice A0_1 l0_1.length c0_1) := (blk_cell BK629.out 1).trans rfl
         have hcz25_2 : wr.cell? ⟨gb629, 2, none⟩ = some (.slice A0_2 l0_2.length c0_2) := (blk_cell BK629.out 2).trans rfl
         have hfz25_0 := blk_frozen BK629.out 0
         have hfz25_1 := blk_frozen BK629.out 1
         have hfz25_2 := blk_frozen BK629.out 2
         have p637 : 0 ≤ (x5_2 : Int) := of_decide_eq_true q4_
         have q637 : x5_2 < (l0_1.length : Int) := of_decide_eq_true q4_
         obtain ⟨ad637, A637_3, c637_3, e637, hx637_0, hx637_1, hx637_2, hx637_3, hl637_3, hi637_3⟩ := at_T52 HR0_1.out x5_2 p637 q637
         cases e637
         replace hx637_0 := (HB.out.cell (World.block_lt_of_cell? w _ hx637_0)).trans hx637_0
         replace hx637_1 := (HB.out.cell (World.block_lt_of_cell? w _ hx637_1)).trans hx637_1
         replace hx637_2 := (HB.out.cell (World.block_lt_of_cell? w _ hx637_2)).trans hx637_2
         replace hx637_3 := (HB.out.cell (World.block_lt_of_cell? w _ hx637_3)).trans hx637_3
         have HR637_3 := Aside0.mk hi637_3
         have HC637_3 := Aside0.mk hl637_3
         clear hi637_3 hl637_3
         replace p637 := eq_true p637
         replace q637 := eq_true q637
         have p638 : 0 ≤ (x5_2 : Int) := of_decide_eq_true q4_
         have q638 : x5_2 < (l0_1.length : Int) := of_decide_eq_true q4_
         obtain ⟨ad638, A638_3, c638_3, e638, hx638_0, hx638_1, hx638_2, hx638_3, hl638_3, hi638_3⟩ := at_T52 HR0_1.out x5_2 p638 q638
         obtain rfl : ad637 = ad638 := (by injection e638)
         replace hx638_0 := (HB.out.cell (World.block_lt_of_cell? w _ hx638_0)).trans hx638_0
         replace hx638_1 := (HB.out.cell (World.block_lt_of_cell? w _ hx638_1)).trans hx638_1
         replace hx638_2 := (HB.out.cell (World.block_lt_of_cell? w _ hx638_2)).trans hx638_2
         replace hx638_3 := (HB.out.cell (World.block_lt_of_cell? w _ hx638_3)).trans hx638_3
         have HR638_3 := Aside0.mk hi638_3
         have HC638_3 := Aside0.mk hl638_3
         clear hi638_3 hl638_3
         replace p638 := eq_true p638
         replace q638 := eq_true q638
         have ea_ := Option.some.inj (hx637_3.symm.trans hx638_3)
         injection ea_ with ea_ en_ ec_
         subst ea_
         subst ec_
         clear en_
         go_wp2
         go_roundg k2
         case measure => have := HK1.out; have := HK2.out; omega
         case rel => exact ⟨(x3_2), (wrap64 (x5_2 + 1)), q14_, H', ⟨q189_⟩, ⟨q80_⟩, ⟨q106_⟩, ⟨q60_⟩⟩
       ·rw [if_neg c12] at H
        exact absurd H (by simp)
      ·rw [if_neg c11] at H
       have c11b0 : decide (x5_2 < (l0_1.length : Int)) = false := decide_eq_false c11
       clear c11
       obtain rfl := Option.some.inj H
       have hcz26_0 : wr.cell? ⟨gb629, 0, none⟩ = some (.int .i64 a0_0) := (blk_cell BK629.out 0).trans rfl
       have hcz26_1 : wr.cell? ⟨gb629, 1, none⟩ = some (.slice A0_1 l0_1.length c0_1) := (blk_cell BK629.out 1).trans rfl
       have hcz26_2 : wr.cell? ⟨gb629, 2, none⟩ = some (.slice A0_2 l0_2.length c0_2) := (blk_cell BK629.out 2).trans rfl
       have hfz26_0 := blk_frozen BK629.out 0
       have hfz26_1 := blk_frozen BK629.out 1
       have hfz26_2 := blk_frozen BK629.out 2
       go_wp2
       go_ret
       exact ⟨_, by first | rfl | (simp [errW_none, errW_some] <;> rfl) | (simp [*, errW_none, errW_some] <;> rfl), by (with_reducible repeat (first | apply Kd.R_alloc | apply Kd.R_drewN | apply Kd.R_drew)); exact HO_3.out, by repeat (first | (with_reducible first | exact HB.out | apply below_alloc | apply pw_below_drewN | apply below_drew1 | refine below_set ?_ GE629.out) | exact HB.out)⟩

end Go.Proofs.Ytcjnknpbikfimaa.P
