/- Functions and contracts, written by a program (mkprint.py, a wrapper of ours around the print); texts between GIVEN marks are ours. -/
import Derived.Test.YtcjnknpbikfimaaPx0
import Derived.Test.YtcjnknpbikfimaaPx1
import Derived.Test.YtcjnknpbikfimaaPx14
namespace Go.Proofs.Ytcjnknpbikfimaa.P
open Go.RowKit Go.Proofs.YtcjnknpbikfimaaW.PrintWords Go.Proofs.YtcjnknpbikfimaaW.PrintLast Go.Proofs.YtcjnknpbikfimaaW.PrintMore
attribute [local go_sem] max2_int min2_int max_two min_two max_three min_three max_four min_four   -- for this text's walks alone
set_option linter.unusedVariables false
set_option linter.unusedSimpArgs false
theorem q46_ {P : Prop} (h : P := by repeat (first | (with_reducible first | exact HB.out | apply below_alloc | apply pw_below_drewN | apply below_drew1 | refine below_set ?_ GE604.out | refine below_set ?_ GE605.out) | exact HB.out)) : P := h
theorem q62_ {P : Prop} (h : P := by (with_reducible repeat (first | refine blk_drewN ?_ _ | refine blk_drew ?_ | refine blk_alloc ?_ _)); exact BK604.out) : P := h
theorem q84_ {P : Prop} (h : P := by (with_reducible repeat (first | refine blk_drewN ?_ _ | refine blk_drew ?_ | refine blk_alloc ?_ _)); exact BK605.out) : P := h
theorem q122_ {P : Prop} (h : P := by repeat (first | (with_reducible first | exact HB.out | apply below_alloc | apply pw_below_drewN | apply below_drew1 | refine below_set ?_ GE604.out) | exact HB.out)) : P := h
theorem q155_ {P : Prop} (h : P := by (with_reducible repeat (first | apply Kd.R_alloc | apply Kd.R_drewN | apply Kd.R_drew)); exact HO_6.out) : P := h

attribute [local go_sem high] eqA35
/-! ### cambiumref06_Seek: function 19 -/
mutual
def cambiumref06_Seek.l0 : Nat → List (S35) → Int → Int → Int → Int → Option (Int × Bool)
 | 0, _, _, _, _, _ => none
 | k + 1, x6, x7, x606000, x606001, x606002 => if x7 < (x6.length : Int) then (if 0 ≤ x7 then ((cambiumref05_Less.f ((rd_T35 x6 x7).f0) ((rd_T35 x6 x7).f1) ((rd_T35 x6 x7).f2) x606000 x606001 x606002).bind fun t610 => (if t610 = true then (cambiumref06_Seek.l0 k x6 (wrap64 (x7 + 1)) x606000 x606001 x606002) else (some (x7, (((rd_T35 x6 x7).f0) == x606000 && (((rd_T35 x6 x7).f1) == x606001 && (((rd_T35 x6 x7).f2) == x606002))))))) else (none)) else (some (x7, false))
def cambiumref06_Seek.l1 : Nat → List (S35) → Int → Int → Int → Int → Int → Option (Int × Bool)
 | 0, _, _, _, _, _, _ => none
 | k + 1, x6, x8, x9, x606000, x606001, x606002 => if x9 < (x6.length : Int) then (if 0 ≤ x9 then ((cambiumref05_Less.f x606000 x606001 x606002 ((rd_T35 x6 x9).f0) ((rd_T35 x6 x9).f1) ((rd_T35 x6 x9).f2)).bind fun t613 => (if t613 = true then (cambiumref06_Seek.l1 k x6 x8 (wrap64 (x9 + 1)) x606000 x606001 x606002) else (cambiumref06_Seek.l1 k x6 x9 (wrap64 (x9 + 1)) x606000 x606001 x606002))) else (none)) else (if x8 < (x6.length : Int) then (if 0 ≤ x8 then (some (x8, (((rd_T35 x6 x8).f0) == x606000 && (((rd_T35 x6 x8).f1) == x606001 && (((rd_T35 x6 x8).f2) == x606002))))) else (none)) else (some (x8, false)))
end
def cambiumref06_Seek.f (k : Nat) (a0_0 : Int) (l0_1 : List (S52)) (l0_2 : List (S57)) (a1_0 : Int) (a1_1 : Int) (a1_2 : Int) : Option (Int × Bool) := (cambiumref06_Keys.f k a0_0 l0_1 l0_2).bind fun t606 => (if a0_0 = 0 then (cambiumref06_Seek.l0 k t606 0 a1_0 a1_1 a1_2) else (cambiumref06_Seek.l1 k t606 0 0 a1_0 a1_1 a1_2))
theorem cambiumref06_Seek.mono_l : ∀ k, (∀ y0 y1 y2 y3 y4, LeO (cambiumref06_Seek.l0 k y0 y1 y2 y3 y4) (cambiumref06_Seek.l0 (k + 1) y0 y1 y2 y3 y4)) ∧ (∀ y0 y1 y2 y3 y4 y5, LeO (cambiumref06_Seek.l1 k y0 y1 y2 y3 y4 y5) (cambiumref06_Seek.l1 (k + 1) y0 y1 y2 y3 y4 y5))
 | 0 => ⟨fun _ _ _ _ _ r h => by simp [cambiumref06_Seek.l0] at h, fun _ _ _ _ _ _ r h => by simp [cambiumref06_Seek.l1] at h⟩
 | k + 1 => by
  obtain ⟨ih0, ih1⟩ := cambiumref06_Seek.mono_l k
  refine ⟨?_, ?_⟩
  ·intro y0 y1 y2 y3 y4
   unfold cambiumref06_Seek.l0
   repeat' first
   | (with_reducible exact ih0 _ _ _ _ _)
   | (with_reducible exact ih1 _ _ _ _ _ _)
   | (with_reducible exact cambiumref06_Keys.mono _ _ _ _)
   | (with_reducible exact LeO.refl _)
   | (with_reducible exact LeO.none _)
   | (with_reducible refine LeO.ite ?_ ?_)
   | (with_reducible refine LeO.bind ?_ (fun _ => ?_))
   | exact ih0 _ _ _ _ _
   | exact ih1 _ _ _ _ _ _
   | exact cambiumref06_Keys.mono _ _ _ _
   | exact LeO.none _
   | refine LeO.ite ?_ ?_
   | refine LeO.bind ?_ (fun _ => ?_)
  ·intro y0 y1 y2 y3 y4 y5
   unfold cambiumref06_Seek.l1
   repeat' first
   | (with_reducible exact ih0 _ _ _ _ _)
   | (with_reducible exact ih1 _ _ _ _ _ _)
   | (with_reducible exact cambiumref06_Keys.mono _ _ _ _)
   | (with_reducible exact LeO.refl _)
   | (with_reducible exact LeO.none _)
   | (with_reducible refine LeO.ite ?_ ?_)
   | (with_reducible refine LeO.bind ?_ (fun _ => ?_))
   | exact ih0 _ _ _ _ _
   | exact ih1 _ _ _ _ _ _
   | exact cambiumref06_Keys.mono _ _ _ _
   | exact LeO.none _
   | refine LeO.ite ?_ ?_
   | refine LeO.bind ?_ (fun _ => ?_)
theorem cambiumref06_Seek.mono : ∀ a0 a1 a2 a3 a4 a5 k, LeO (cambiumref06_Seek.f k a0 a1 a2 a3 a4 a5) (cambiumref06_Seek.f (k + 1) a0 a1 a2 a3 a4 a5) := by
 intro a0 a1 a2 a3 a4 a5 k
 obtain ⟨ih0, ih1⟩ := cambiumref06_Seek.mono_l k
 unfold cambiumref06_Seek.f
 repeat' first
   | (with_reducible exact ih0 _ _ _ _ _)
   | (with_reducible exact ih1 _ _ _ _ _ _)
   | (with_reducible exact cambiumref06_Keys.mono _ _ _ _)
   | (with_reducible exact LeO.refl _)
   | (with_reducible exact LeO.none _)
   | (with_reducible refine LeO.ite ?_ ?_)
   | (with_reducible refine LeO.bind ?_ (fun _ => ?_))
   | exact ih0 _ _ _ _ _
   | exact ih1 _ _ _ _ _ _
   | exact cambiumref06_Keys.mono _ _ _ _
   | exact LeO.none _
   | refine LeO.ite ?_ ?_
   | refine LeO.bind ?_ (fun _ => ?_)
def cambiumref06_Seek.T4 : Bool × List (List Nat × List Nat) := (true, [([], []), ([], []), ([1], [1]), ([0, 2], [0, 2]), ([3], [3]), ([4], [4]), ([4], [4]), ([5, 6, 4], [4, 5, 6]), ([7, 4], [4, 7]), ([4], [4]), ([8, 9, 4, 4], [4, 8, 9]), ([4, 10], [4, 10])])
def cambiumref06_Seek.B4 : List Nat := [0, 0, 2, 7, 15, 31, 31, 127, 255, 31, 1023, 2047]
theorem cambiumref06_Seek.tab4 : rtab .any (opsOf Try.f19 4) = cambiumref06_Seek.T4 := by kernel_rfl
theorem cambiumref06_Seek.bits4 : waitsOk cambiumref06_Seek.T4.2 cambiumref06_Seek.B4 = true := by kernel_rfl
def cambiumref06_Seek.T6 : Bool × List (List Nat × List Nat) := (true, [([], []), ([], []), ([], []), ([2], [2]), ([1, 3], [1, 3]), ([4], [4]), ([5], [5]), ([5], [5]), ([6, 7, 5], [5, 6, 7]), ([8, 5], [5, 8]), ([5], [5]), ([9, 10, 5], [5, 9, 10]), ([5, 11], [5, 11]), ([0, 5, 0], [0]), ([12, 13, 0, 1, 2, 3, 4, 5, 6, 7, 8, 9, 10, 11, 12, 13], [12])])
def cambiumref06_Seek.B6 : List Nat := [0, 0, 0, 4, 14, 30, 62, 62, 254, 510, 62, 2046, 4094, 63, 16383]
theorem cambiumref06_Seek.tab6 : rtab .any (opsOf Try.f19 6) = cambiumref06_Seek.T6 := by kernel_rfl
theorem cambiumref06_Seek.bits6 : waitsOk cambiumref06_Seek.T6.2 cambiumref06_Seek.B6 = true := by kernel_rfl
def cambiumref06_Seek.T13 : Bool × List (List Nat × List Nat) := (true, [([], []), ([], []), ([], []), ([2], [2]), ([1, 3], [1, 3]), ([4], [4]), ([5], [5]), ([5], [5]), ([6, 7, 5], [5, 6, 7]), ([8, 5], [5, 8]), ([5], [5]), ([9, 10, 5], [5, 9, 10]), ([5, 11], [5, 11]), ([0, 5, 0], [0]), ([12, 13, 0, 1, 2, 3, 4, 5, 6, 7, 8, 9, 10, 11, 12, 13], [12])])
def cambiumref06_Seek.B13 : List Nat := [0, 0, 0, 4, 14, 30, 62, 62, 254, 510, 62, 2046, 4094, 63, 16383]
theorem cambiumref06_Seek.tab13 : rtab .any (opsOf Try.f19 13) = cambiumref06_Seek.T13 := by kernel_rfl
theorem cambiumref06_Seek.bits13 : waitsOk cambiumref06_Seek.T13.2 cambiumref06_Seek.B13 = true := by kernel_rfl
set_option maxHeartbeats 8000000 in
set_option maxRecDepth 100000 in
theorem cambiumref06_Seek.calls (k : Nat) (a0_0 : Int) (A0_1 : Option Addr) (c0_1 : Nat) (l0_1 : List (S52)) (A0_2 : Option Addr) (c0_2 : Nat) (l0_2 : List (S57)) (a1_0 : Int) (a1_1 : Int) (a1_2 : Int) (r1 : Int) (r2 : Bool) (w : World) (hr0_1 : Kd.C k52 w A0_1 l0_1.length l0_1) (hc0_1 : l0_1.length ≤ c0_1) (hr0_2 : Kd.C k57 w A0_2 l0_2.length l0_2) (hc0_2 : l0_2.length ≤ c0_2) (h : cambiumref06_Seek.f k a0_0 l0_1 l0_2 a1_0 a1_1 a1_2 = some (r1, r2)) :
  Calls Try.prog 19 #[.agg #[.int .i64 a0_0, .slice A0_1 l0_1.length c0_1, .slice A0_2 l0_2.length c0_2], .agg #[.int .i64 a1_0, .int .i64 a1_1, .int .i64 a1_2]] w fun e w' => e = .returned (.tuple #[.int .i64 r1, .bool r2]) ∧ Below w.heap.size w w' := by
 have hu25 := Try.underlying25
 have hu35 := Try.underlying35
 have HR0_1 := Aside0.mk hr0_1
 have HC0_1 := Aside0.mk hc0_1
 clear hr0_1 hc0_1
 have HR0_2 := Aside0.mk hr0_2
 have HC0_2 := Aside0.mk hc0_2
 clear hr0_2 hc0_2
 have HB := Aside0.mk (Below.refl w.heap.size w)
 have H : ((cambiumref06_Keys.f k a0_0 l0_1 l0_2).bind fun t606 => (if a0_0 = 0 then (cambiumref06_Seek.l0 k t606 0 a1_0 a1_1 a1_2) else (cambiumref06_Seek.l1 k t606 0 0 a1_0 a1_1 a1_2))) = some (r1, r2) := h
 clear h
 replace H := Option.bind_eq_some_iff.mp H
 obtain ⟨t606, A30, H⟩ := H
 replace H : (if a0_0 = 0 then (cambiumref06_Seek.l0 k t606 0 a1_0 a1_1 a1_2) else (cambiumref06_Seek.l1 k t606 0 0 a1_0 a1_1 a1_2)) = some (r1, r2) := H
 have A3 := Aside0.mk A30
 clear A30
 by_cases c4 : a0_0 = 0
 ·rw [if_pos c4] at H
  have c4b0 : (a0_0 == 0) = true := beq_iff_eq.mpr c4
  have c4b1 : (a0_0 != 0) = false := bne_eq_false_iff_eq.mpr c4
  clear c4
  have H' := Aside0.mk H
  clear H
  go_enter Try.func19, Try.ntmps19
  go_wp2_with (first | ((with_reducible refine gate_dst (N := 2) rfl ?_); refine box_event ?hg (N := 2) ?hd (cs := #[.int .i64 a0_0, .slice A0_1 l0_1.length c0_1, .slice A0_2 l0_2.length c0_2]) (t := 25) ?hr ?_; (case hd => rfl); (case hg => rfl); (case hr => first | (go_simp; done) | (go_simp; rfl)); intro gb604 hg w5 hbox hb; have n0_ := Aside0.mk (below_step q0_ hb); have n1_ := Aside0.mk (hbox); have n2_ := Aside0.mk ((by rw [hg]; exact (below_size q0_) : w.heap.size ≤ gb604)); have n3_ := Aside0.mk ((by rw [hg]; exact (below_size q0_) : w.heap.size ≤ gb604)); clear HB; have HB := n0_; have BK604 := n1_; have GW604 := n2_; have GE604 := n3_; clear n0_ n1_ n2_ n3_; clear hb hbox hg) | ((with_reducible refine gate_dst (N := 3) rfl ?_); refine box_event ?hg (N := 3) ?hd (cs := #[.int .i64 a1_0, .int .i64 a1_1, .int .i64 a1_2]) (t := 35) ?hr ?_; (case hd => rfl); (case hg => rfl); (case hr => first | (go_simp; done) | (go_simp; rfl)); intro gb605 hg w6 hbox hb; have n0_ := Aside0.mk (blk_below (g := gb604) (o := .cells #[.int .i64 a0_0, .slice A0_1 l0_1.length c0_1, .slice A0_2 l0_2.length c0_2] 25 (0, 0)) q62_ hb); have n1_ := Aside0.mk (below_step q122_ hb); have n2_ := Aside0.mk (hbox); have n3_ := Aside0.mk ((by rw [hg]; exact (below_size q122_) : w.heap.size ≤ gb605)); have n4_ := Aside0.mk ((by rw [hg]; exact (below_size q122_) : w.heap.size ≤ gb605)); have n5_ := Aside0.mk ((by rw [hg]; exact Nat.ne_of_lt (blk_lt (g := gb604) (o := .cells #[.int .i64 a0_0, .slice A0_1 l0_1.length c0_1, .slice A0_2 l0_2.length c0_2] 25 (0, 0)) q62_) : gb604 ≠ gb605)); have n6_ := Aside0.mk ((by rw [hg]; exact Nat.ne_of_gt (blk_lt (g := gb604) (o := .cells #[.int .i64 a0_0, .slice A0_1 l0_1.length c0_1, .slice A0_2 l0_2.length c0_2] 25 (0, 0)) q62_) : gb605 ≠ gb604)); clear BK604; clear HB; have BK604 := n0_; have HB := n1_; have BK605 := n2_; have GW605 := n3_; have GE605 := n4_; have NB604_605 := n5_; have NB605_604 := n6_; clear n0_ n1_ n2_ n3_ n4_ n5_ n6_; clear hb hbox hg; have hnb7 := NB604_605.out; have hnc7 := NB605_604.out; have hcz8_0 : w6.cell? ⟨gb604, 0, none⟩ = some (.int .i64 a0_0) := (blk_cell BK604.out 0).trans rfl; have hcz8_1 : w6.cell? ⟨gb604, 1, none⟩ = some (.slice A0_1 l0_1.length c0_1) := (blk_cell BK604.out 1).trans rfl; have hcz8_2 : w6.cell? ⟨gb604, 2, none⟩ = some (.slice A0_2 l0_2.length c0_2) := (blk_cell BK604.out 2).trans rfl; have hfz8_0 := blk_frozen BK604.out 0; have hfz8_1 := blk_frozen BK604.out 1; have hfz8_2 := blk_frozen BK604.out 2) | ((with_reducible refine gate_callee (f := 16) rfl ?_); refine goesL_ (some 11) rfl rfl Try.func16 q8_ rfl #[.agg #[.int .i64 a0_0, .slice A0_1 l0_1.length c0_1, .slice A0_2 l0_2.length c0_2]] rfl q1_ ?_; (with_reducible refine (cambiumref06_Keys.calls k a0_0 _ _ l0_1 _ _ l0_2 t606 _ ?side1 ?side2 ?side3 ?side4 A3.out).mono ?_); (case side1 => repeat (first | exact (Kd.C_below HR0_1.out HB.out) | (with_reducible refine Kd.C_alloc ?_ _) | (with_reducible refine Kd.C_drewN ?_ _) | (with_reducible refine Kd.C_drew ?_))); (case side2 => exact HC0_1.out); (case side3 => repeat (first | exact (Kd.C_below HR0_2.out HB.out) | (with_reducible refine Kd.C_alloc ?_ _) | (with_reducible refine Kd.C_drewN ?_ _) | (with_reducible refine Kd.C_drew ?_))); (case side4 => exact HC0_2.out); rintro e w9 ⟨v607, rfl, ho0, hb⟩; refine ⟨_, rfl, ?_⟩; have n0_ := Aside0.mk (Kd.R_lower (Kd.R_newB ho0 (g := gb605) (o := .cells #[.int .i64 a1_0, .int .i64 a1_1, .int .i64 a1_2] 35 (0, 0)) q84_) (below_size q46_)); have n1_ := Aside0.mk (blk_below (g := gb604) (o := .cells #[.int .i64 a0_0, .slice A0_1 l0_1.length c0_1, .slice A0_2 l0_2.length c0_2] 25 (0, 0)) q62_ hb); have n2_ := Aside0.mk (blk_below (g := gb605) (o := .cells #[.int .i64 a1_0, .int .i64 a1_1, .int .i64 a1_2] 35 (0, 0)) q84_ hb); have n3_ := Aside0.mk (below_step q46_ hb); clear BK604; clear BK605; clear HB; have HO608 := n0_; have BK604 := n1_; have BK605 := n2_; have HB := n3_; clear n0_ n1_ n2_ n3_; (try clear hb); (try clear hb2); (try clear hk); (try clear hi); (try clear ho0); have hcz10_0 : w9.cell? ⟨gb604, 0, none⟩ = some (.int .i64 a0_0) := (blk_cell BK604.out 0).trans rfl; have hcz10_1 : w9.cell? ⟨gb604, 1, none⟩ = some (.slice A0_1 l0_1.length c0_1) := (blk_cell BK604.out 1).trans rfl; have hcz10_2 : w9.cell? ⟨gb604, 2, none⟩ = some (.slice A0_2 l0_2.length c0_2) := (blk_cell BK604.out 2).trans rfl; have hfz10_0 := blk_frozen BK604.out 0; have hfz10_1 := blk_frozen BK604.out 1; have hfz10_2 := blk_frozen BK604.out 2))
  go_loopg [7] k (fun kq v7 w' => ∃ (x7_1 : Int), v7 = .int .i64 x7_1 ∧ Aside0 (cambiumref06_Seek.l0 kq t606 x7_1 a1_0 a1_1 a1_2 = some (r1, r2)) ∧ Aside0 (kq ≤ k) ∧ Aside0 (Kd.R k35 35 w' w.heap.size (fun k_ => k_ ≠ gb605) v607 t606) ∧ Aside0 (w'.heap[gb604]? = some (.cells #[.int .i64 a0_0, (.slice A0_1 l0_1.length c0_1), (.slice A0_2 l0_2.length c0_2)] 25 (0, 0))) ∧ Aside0 (w'.heap[gb605]? = some (.cells #[.int .i64 a1_0, .int .i64 a1_1, .int .i64 a1_2] 35 (0, 0))) ∧ Aside0 (Below w.heap.size w w'))
  case atStart => exact ⟨(0), q14_, H', ⟨Nat.le_refl _⟩, ⟨by (with_reducible repeat (first | apply Kd.R_alloc | apply Kd.R_drewN | apply Kd.R_drew)); exact Kd.R_mono HO608.out (fun _ hk => hk.2)⟩, ⟨q62_⟩, ⟨q84_⟩, ⟨q46_⟩⟩
  case round =>
   clear H'
   try clear c1
   try clear p2
   try clear c4
   try clear c4b0
   try clear c4b1
   try clear c7
   try clear hcz10_0
   try clear hcz10_1
   try clear hcz10_2
   try clear hcz8_0
   try clear hcz8_1
   try clear hcz8_2
   try clear hfz10_0
   try clear hfz10_1
   try clear hfz10_2
   try clear hfz8_0
   try clear hfz8_1
   try clear hfz8_2
   obtain ⟨x7_1, rfl, HA, HK1, HO_6, BK604, BK605, HB⟩ := hrel
   cases gk with
   | zero => exact absurd (show none = some _ from HA.out) (by simp)
   | succ k1 =>
    have H := HA.out
    clear HA
    simp only [cambiumref06_Seek.l0] at H
    by_cases c11 : x7_1 < (t606.length : Int)
    ·rw [if_pos c11] at H
     have c11b0 : decide (x7_1 < (t606.length : Int)) = true := decide_eq_true c11
     clear c11
     by_cases c12 : 0 ≤ x7_1
     ·rw [if_pos c12] at H
      have c12b0 : decide (0 ≤ x7_1) = true := decide_eq_true c12
      clear c12
      replace H := Option.bind_eq_some_iff.mp H
      obtain ⟨t610, A130, H⟩ := H
      replace H : (if t610 = true then (cambiumref06_Seek.l0 k1 t606 (wrap64 (x7_1 + 1)) a1_0 a1_1 a1_2) else (some (x7_1, (((rd_T35 t606 x7_1).f0) == a1_0 && (((rd_T35 t606 x7_1).f1) == a1_1 && (((rd_T35 t606 x7_1).f2) == a1_2)))))) = some (r1, r2) := H
      have A13 := Aside0.mk A130
      clear A130
      by_cases c14 : t610 = true
      ·subst c14
       have H1 : (cambiumref06_Seek.l0 k1 t606 (wrap64 (x7_1 + 1)) a1_0 a1_1 a1_2) = some (r1, r2) := by rw [if_pos rfl] at H; exact H
       clear H
       have H := H1
       clear H1
       have H' := Aside0.mk H
       clear H
       try go_wp2
       have n0_ := Aside0.mk (Kd.R_drew HO_6.out)
       have n1_ := Aside0.mk (blk_drew BK604.out)
       have n2_ := Aside0.mk (blk_drew BK605.out)
       have n3_ := Aside0.mk (below_drew1 HB.out)
       clear HO_6
       clear BK604
       clear BK605
       clear HB
       have HO_6 := n0_
       have BK604 := n1_
       have BK605 := n2_
       have HB := n3_
       clear n0_ n1_ n2_ n3_
       obtain ⟨Ao16, co16, eo16⟩ := Kd.R_slice HO_6.out
       (first | subst eo16 | (injection eo16 with f1_ f2_ f3_; have f4_ := f1_.symm; have f5_ := f3_.symm; clear f1_ f2_ f3_; subst f4_; subst f5_))
       have p609 : 0 ≤ (x7_1 : Int) := of_decide_eq_true q4_
       have q609 : x7_1 < (t606.length : Int) := of_decide_eq_true q4_
       obtain ⟨ad609, e609, hx609_0, hx609_1, hx609_2⟩ := at_T35 (Kd.R_reads' HO_6.out).2.2 x7_1 p609 q609
       cases e609
       replace p609 := eq_true p609
       replace q609 := eq_true q609
       refine start_ (n := 12) (S := fun w' => w'.cell? ⟨gb605, 0, none⟩ = some (.int .i64 a1_0) ∧ w'.cell? ⟨gb605, 1, none⟩ = some (.int .i64 a1_1) ∧ w'.cell? ⟨gb605, 2, none⟩ = some (.int .i64 a1_2) ∧ w'.cell? (ad609.add ((x7_1).toNat * 3)) = some (.int .i64 ((rd_T35 t606 x7_1).f0)) ∧ w'.cell? ⟨(ad609.add ((x7_1).toNat * 3)).block, (ad609.add ((x7_1).toNat * 3)).off + 1, none⟩ = some (.int .i64 ((rd_T35 t606 x7_1).f1)) ∧ w'.cell? ⟨(ad609.add ((x7_1).toNat * 3)).block, (ad609.add ((x7_1).toNat * 3)).off + 2, none⟩ = some (.int .i64 ((rd_T35 t606 x7_1).f2))) (ds := []) (bl_ 12 0) q8_ rfl rfl ⟨(blk_cell BK605.out 0).trans rfl, (blk_cell BK605.out 1).trans rfl, (blk_cell BK605.out 2).trans rfl, hx609_0, hx609_1, hx609_2⟩ (fun hHeld => ?_); refine with_tabW cambiumref06_Seek.tab4 cambiumref06_Seek.bits4 (fun HT_ HW_ => ?_)
       generalize wr.drew = w15 at HO_6 BK604 BK605 HB hx609_0 hx609_1 hx609_2 hHeld ⊢
       refine pure_ (i := 0) (N := some 15) (v := ?_) (a' := ?_) (bl_ 12 1) rfl rfl (any_of HT_.out q8_) (fun _ _ _ h => h) (Or.inl ⟨by rfl, ?_⟩) ?_ ?_
       rotate_left
       ·intro w'
        go_simp
        with_reducible rfl
       rotate_left
       ·simp only [Act.put, List.setIfInBounds_toArray, List.set_cons_zero, List.set_cons_succ, i64_w, i32_w]
        rfl
       refine pure_ (i := 1) (N := some 16) (v := ?_) (a' := ?_) (bl_ 12 3) rfl rfl (any_of HT_.out q8_) (fun _ _ _ h => h) (Or.inl ⟨by rfl, ?_⟩) ?_ ?_
       rotate_left
       ·intro w'
        go_simp
        with_reducible rfl
       rotate_left
       ·simp only [Act.put, List.setIfInBounds_toArray, List.set_cons_zero, List.set_cons_succ, i64_w, i32_w]
        rfl
       refine pure_ (i := 2) (N := some 17) (v := ?_) (a' := ?_) (bl_ 12 7) rfl rfl (any_of HT_.out q8_) (fun _ _ _ h => h) (Or.inl ⟨by rfl, ?_⟩) ?_ ?_
       rotate_left
       ·intro w'
        go_simp
        with_reducible rfl
       rotate_left
       ·simp only [Act.put, List.setIfInBounds_toArray, List.set_cons_zero, List.set_cons_succ, i64_w, i32_w]
        rfl
       refine pure_ (i := 3) (N := some 18) (v := ?_) (a' := ?_) (bl_ 12 15) rfl rfl (any_of HT_.out q8_) (fun _ _ _ h => h) (Or.inl ⟨by rfl, ?_⟩) ?_ ?_
       rotate_left
       ·intro w'
        go_simp
        with_reducible rfl
       rotate_left
       ·simp only [Act.put, List.setIfInBounds_toArray, List.set_cons_zero, List.set_cons_succ, i64_w, i32_w]
        rfl
       refine pure_ (i := 4) (N := some 19) (v := ?_) (a' := ?_) (bl_ 12 31) rfl rfl (any_of HT_.out q8_) (fun _ _ _ h => h) (Or.inl ⟨by rfl, ?_⟩) ?_ ?_
       rotate_left
       ·intro w'
        go_simp
        with_reducible rfl
       rotate_left
       ·simp only [Act.put, List.setIfInBounds_toArray, List.set_cons_zero, List.set_cons_succ, i64_w, i32_w]
        rfl
       refine pure_ (i := 5) (N := some 20) (v := ?_) (a' := ?_) (bl_ 12 63) rfl rfl (any_of HT_.out q8_) (fun _ _ _ h => h) (Or.inl ⟨by rfl, ?_⟩) ?_ ?_
       rotate_left
       ·intro w'
        go_simp
        with_reducible rfl
       rotate_left
       ·simp only [Act.put, List.setIfInBounds_toArray, List.set_cons_zero, List.set_cons_succ, i64_w, i32_w]
        rfl
       refine pure_ (i := 6) (N := some 21) (v := ?_) (a' := ?_) (bl_ 12 127) rfl rfl (any_of HT_.out q8_) (fun _ _ _ h => h) (Or.inl ⟨by rfl, ?_⟩) ?_ ?_
       rotate_left
       ·intro w'
        go_simp
        with_reducible rfl
       rotate_left
       ·simp only [Act.put, List.setIfInBounds_toArray, List.set_cons_zero, List.set_cons_succ, i64_w, i32_w]
        rfl
       refine pure_ (i := 7) (N := some 22) (v := ?_) (a' := ?_) (bl_ 12 255) rfl rfl (any_of HT_.out q8_) (fun _ _ _ h => h) (Or.inl ⟨by rfl, ?_⟩) ?_ ?_
       rotate_left
       ·intro w'
        go_simp
        with_reducible rfl
       rotate_left
       ·simp only [Act.put, List.setIfInBounds_toArray, List.set_cons_zero, List.set_cons_succ, i64_w, i32_w]
        rfl
       refine take_ (i := 8) (N := some 23) (v := ?_) (a' := ?_) (bl_ 12 511) rfl rfl (take_ofW HT_.out HW_.out q8_) (fun _ _ _ h => h) (Or.inl ⟨by rfl, ?_⟩) hHeld ?_ ?_
       rotate_left
       ·rintro w' ⟨s0, s1, s2, s3, s4, s5⟩
        go_simp
        with_reducible rfl
       rotate_left
       ·simp only [Act.put, List.setIfInBounds_toArray, List.set_cons_zero, List.set_cons_succ, i64_w, i32_w]
        rfl
       refine take_ (i := 9) (N := some 24) (v := ?_) (a' := ?_) (bl_ 12 1023) rfl rfl (take_ofW HT_.out HW_.out q8_) (fun _ _ _ h => h) (Or.inl ⟨by rfl, ?_⟩) hHeld ?_ ?_
       rotate_left
       ·rintro w' ⟨s0, s1, s2, s3, s4, s5⟩
        go_simp
        with_reducible rfl
       rotate_left
       ·simp only [Act.put, List.setIfInBounds_toArray, List.set_cons_zero, List.set_cons_succ, i64_w, i32_w]
        rfl
       refine one_ (i := 10) (N := some 25) (bl_ 12 2047) rfl rfl (one_of HT_.out q8_) q210_ (fun K hK => ?_)
       refine goes_ Try.func17 q8_ rfl #[.agg #[.int .i64 ((rd_T35 t606 x7_1).f0), .int .i64 ((rd_T35 t606 x7_1).f1), .int .i64 ((rd_T35 t606 x7_1).f2)], .agg #[.int .i64 a1_0, .int .i64 a1_1, .int .i64 a1_2]] (by rfl) rfl rfl q1_ ?_
       with_reducible refine (cambiumref05_Less.calls ((rd_T35 t606 x7_1).f0) ((rd_T35 t606 x7_1).f1) ((rd_T35 t606 x7_1).f2) a1_0 a1_1 a1_2 true _ A13.out).mono ?_
       rintro e w17 ⟨rfl, hb⟩
       have HS3_ := (hb.cell (World.block_lt_of_cell? _ _ (hHeld.2.2.2.1))).trans (hHeld.2.2.2.1)
       have HS4_ := (hb.cell (World.block_lt_of_cell? _ _ (hHeld.2.2.2.2.1))).trans (hHeld.2.2.2.2.1)
       have HS5_ := (hb.cell (World.block_lt_of_cell? _ _ (hHeld.2.2.2.2.2))).trans (hHeld.2.2.2.2.2)
       refine ⟨_, rfl, ?_⟩
       have n0_ := Aside0.mk (Kd.R_below q155_ hb)
       have n1_ := Aside0.mk (blk_below (g := gb604) (o := .cells #[.int .i64 a0_0, .slice A0_1 l0_1.length c0_1, .slice A0_2 l0_2.length c0_2] 25 (0, 0)) q62_ hb)
       have n2_ := Aside0.mk (blk_below (g := gb605) (o := .cells #[.int .i64 a1_0, .int .i64 a1_1, .int .i64 a1_2] 35 (0, 0)) q84_ hb)
       have n3_ := Aside0.mk (below_step q46_ hb)
       clear HO_6
       clear BK604
       clear BK605
       clear HB
       have HO_6 := n0_
       have BK604 := n1_
       have BK605 := n2_
       have HB := n3_
       clear n0_ n1_ n2_ n3_
       (try clear hb)
       (try clear hb2)
       (try clear hk)
       (try clear hi)
       refine hK.out _ _ ⟨(blk_cell BK605.out 0).trans rfl, (blk_cell BK605.out 1).trans rfl, (blk_cell BK605.out 2).trans rfl, HS3_, HS4_, HS5_⟩ (fun hHeld => ?_)
       clear hK K
       refine norm_ (a' := ?_) ?_ ?_
       rotate_left
       ·show Act.put _ (some 25) _ = _
        simp only [Act.put, List.setIfInBounds_toArray, List.set_cons_zero, List.set_cons_succ, i64_w, i32_w]
        rfl
       refine pure_ (i := 11) (N := some 26) (v := ?_) (a' := ?_) (bl_ 12 4095) rfl rfl (any_of HT_.out q8_) (fun _ _ _ h => h) (Or.inl ⟨by rfl, ?_⟩) ?_ ?_
       rotate_left
       ·intro w'
        go_simp
        with_reducible rfl
       rotate_left
       ·simp only [Act.put, List.setIfInBounds_toArray, List.set_cons_zero, List.set_cons_succ, i64_w, i32_w]
        rfl
       refine done_ (done_of HT_.out q8_) ?_
       try go_wp2
       go_roundg k1
       case measure => have := HK1.out; omega
       case rel => exact ⟨(wrap64 (x7_1 + 1)), q14_, H', ⟨by have := HK1.out; omega⟩, ⟨q155_⟩, ⟨q62_⟩, ⟨q84_⟩, ⟨q46_⟩⟩
      ·replace c14 := Bool.eq_false_iff.mpr c14
       subst c14
       have H1 : (some (x7_1, (((rd_T35 t606 x7_1).f0) == a1_0 && (((rd_T35 t606 x7_1).f1) == a1_1 && (((rd_T35 t606 x7_1).f2) == a1_2))))) = some (r1, r2) := by rw [if_neg (show ¬ (false = true) by decide)] at H; exact H
       clear H
       have H := H1
       clear H1
       simp only [Option.some.injEq, Prod.mk.injEq] at H
       obtain ⟨rfl, rfl⟩ := H
       try go_wp2
       have n0_ := Aside0.mk (Kd.R_drew HO_6.out)
       have n1_ := Aside0.mk (blk_drew BK604.out)
       have n2_ := Aside0.mk (blk_drew BK605.out)
       have n3_ := Aside0.mk (below_drew1 HB.out)
       clear HO_6
       clear BK604
       clear BK605
       clear HB
       have HO_6 := n0_
       have BK604 := n1_
       have BK605 := n2_
       have HB := n3_
       clear n0_ n1_ n2_ n3_
       obtain ⟨Ao19, co19, eo19⟩ := Kd.R_slice HO_6.out
       (first | subst eo19 | (injection eo19 with f1_ f2_ f3_; have f4_ := f1_.symm; have f5_ := f3_.symm; clear f1_ f2_ f3_; subst f4_; subst f5_))
       have p609 : 0 ≤ (x7_1 : Int) := of_decide_eq_true q4_
       have q609 : x7_1 < (t606.length : Int) := of_decide_eq_true q4_
       obtain ⟨ad609, e609, hx609_0, hx609_1, hx609_2⟩ := at_T35 (Kd.R_reads' HO_6.out).2.2 x7_1 p609 q609
       cases e609
       replace p609 := eq_true p609
       replace q609 := eq_true q609
       refine start_ (n := 12) (S := fun w' => w'.cell? ⟨gb605, 0, none⟩ = some (.int .i64 a1_0) ∧ w'.cell? ⟨gb605, 1, none⟩ = some (.int .i64 a1_1) ∧ w'.cell? ⟨gb605, 2, none⟩ = some (.int .i64 a1_2) ∧ w'.cell? (ad609.add ((x7_1).toNat * 3)) = some (.int .i64 ((rd_T35 t606 x7_1).f0)) ∧ w'.cell? ⟨(ad609.add ((x7_1).toNat * 3)).block, (ad609.add ((x7_1).toNat * 3)).off + 1, none⟩ = some (.int .i64 ((rd_T35 t606 x7_1).f1)) ∧ w'.cell? ⟨(ad609.add ((x7_1).toNat * 3)).block, (ad609.add ((x7_1).toNat * 3)).off + 2, none⟩ = some (.int .i64 ((rd_T35 t606 x7_1).f2))) (ds := []) (bl_ 12 0) q8_ rfl rfl ⟨(blk_cell BK605.out 0).trans rfl, (blk_cell BK605.out 1).trans rfl, (blk_cell BK605.out 2).trans rfl, hx609_0, hx609_1, hx609_2⟩ (fun hHeld => ?_); refine with_tabW cambiumref06_Seek.tab4 cambiumref06_Seek.bits4 (fun HT_ HW_ => ?_)
       generalize wr.drew = w18 at HO_6 BK604 BK605 HB hx609_0 hx609_1 hx609_2 hHeld ⊢
       refine pure_ (i := 0) (N := some 15) (v := ?_) (a' := ?_) (bl_ 12 1) rfl rfl (any_of HT_.out q8_) (fun _ _ _ h => h) (Or.inl ⟨by rfl, ?_⟩) ?_ ?_
       rotate_left
       ·intro w'
        go_simp
        with_reducible rfl
       rotate_left
       ·simp only [Act.put, List.setIfInBounds_toArray, List.set_cons_zero, List.set_cons_succ, i64_w, i32_w]
        rfl
       refine pure_ (i := 1) (N := some 16) (v := ?_) (a' := ?_) (bl_ 12 3) rfl rfl (any_of HT_.out q8_) (fun _ _ _ h => h) (Or.inl ⟨by rfl, ?_⟩) ?_ ?_
       rotate_left
       ·intro w'
        go_simp
        with_reducible rfl
       rotate_left
       ·simp only [Act.put, List.setIfInBounds_toArray, List.set_cons_zero, List.set_cons_succ, i64_w, i32_w]
        rfl
       refine pure_ (i := 2) (N := some 17) (v := ?_) (a' := ?_) (bl_ 12 7) rfl rfl (any_of HT_.out q8_) (fun _ _ _ h => h) (Or.inl ⟨by rfl, ?_⟩) ?_ ?_
       rotate_left
       ·intro w'
        go_simp
        with_reducible rfl
       rotate_left
       ·simp only [Act.put, List.setIfInBounds_toArray, List.set_cons_zero, List.set_cons_succ, i64_w, i32_w]
        rfl
       refine pure_ (i := 3) (N := some 18) (v := ?_) (a' := ?_) (bl_ 12 15) rfl rfl (any_of HT_.out q8_) (fun _ _ _ h => h) (Or.inl ⟨by rfl, ?_⟩) ?_ ?_
       rotate_left
       ·intro w'
        go_simp
        with_reducible rfl
       rotate_left
       ·simp only [Act.put, List.setIfInBounds_toArray, List.set_cons_zero, List.set_cons_succ, i64_w, i32_w]
        rfl
       refine pure_ (i := 4) (N := some 19) (v := ?_) (a' := ?_) (bl_ 12 31) rfl rfl (any_of HT_.out q8_) (fun _ _ _ h => h) (Or.inl ⟨by rfl, ?_⟩) ?_ ?_
       rotate_left
       ·intro w'
        go_simp
        with_reducible rfl
       rotate_left
       ·simp only [Act.put, List.setIfInBounds_toArray, List.set_cons_zero, List.set_cons_succ, i64_w, i32_w]
        rfl
       refine pure_ (i := 5) (N := some 20) (v := ?_) (a' := ?_) (bl_ 12 63) rfl rfl (any_of HT_.out q8_) (fun _ _ _ h => h) (Or.inl ⟨by rfl, ?_⟩) ?_ ?_
       rotate_left
       ·intro w'
        go_simp
        with_reducible rfl
       rotate_left
       ·simp only [Act.put, List.setIfInBounds_toArray, List.set_cons_zero, List.set_cons_succ, i64_w, i32_w]
        rfl
       refine pure_ (i := 6) (N := some 21) (v := ?_) (a' := ?_) (bl_ 12 127) rfl rfl (any_of HT_.out q8_) (fun _ _ _ h => h) (Or.inl ⟨by rfl, ?_⟩) ?_ ?_
       rotate_left
       ·intro w'
        go_simp
        with_reducible rfl
       rotate_left
       ·simp only [Act.put, List.setIfInBounds_toArray, List.set_cons_zero, List.set_cons_succ, i64_w, i32_w]
        rfl
       refine pure_ (i := 7) (N := some 22) (v := ?_) (a' := ?_) (bl_ 12 255) rfl rfl (any_of HT_.out q8_) (fun _ _ _ h => h) (Or.inl ⟨by rfl, ?_⟩) ?_ ?_
       rotate_left
       ·intro w'
        go_simp
        with_reducible rfl
       rotate_left
       ·simp only [Act.put, List.setIfInBounds_toArray, List.set_cons_zero, List.set_cons_succ, i64_w, i32_w]
        rfl
       refine take_ (i := 8) (N := some 23) (v := ?_) (a' := ?_) (bl_ 12 511) rfl rfl (take_ofW HT_.out HW_.out q8_) (fun _ _ _ h => h) (Or.inl ⟨by rfl, ?_⟩) hHeld ?_ ?_
       rotate_left
       ·rintro w' ⟨s0, s1, s2, s3, s4, s5⟩
        go_simp
        with_reducible rfl
       rotate_left
       ·simp only [Act.put, List.setIfInBounds_toArray, List.set_cons_zero, List.set_cons_succ, i64_w, i32_w]
        rfl
       refine take_ (i := 9) (N := some 24) (v := ?_) (a' := ?_) (bl_ 12 1023) rfl rfl (take_ofW HT_.out HW_.out q8_) (fun _ _ _ h => h) (Or.inl ⟨by rfl, ?_⟩) hHeld ?_ ?_
       rotate_left
       ·rintro w' ⟨s0, s1, s2, s3, s4, s5⟩
        go_simp
        with_reducible rfl
       rotate_left
       ·simp only [Act.put, List.setIfInBounds_toArray, List.set_cons_zero, List.set_cons_succ, i64_w, i32_w]
        rfl
       refine one_ (i := 10) (N := some 25) (bl_ 12 2047) rfl rfl (one_of HT_.out q8_) q210_ (fun K hK => ?_)
       refine goes_ Try.func17 q8_ rfl #[.agg #[.int .i64 ((rd_T35 t606 x7_1).f0), .int .i64 ((rd_T35 t606 x7_1).f1), .int .i64 ((rd_T35 t606 x7_1).f2)], .agg #[.int .i64 a1_0, .int .i64 a1_1, .int .i64 a1_2]] (by rfl) rfl rfl q1_ ?_
       with_reducible refine (cambiumref05_Less.calls ((rd_T35 t606 x7_1).f0) ((rd_T35 t606 x7_1).f1) ((rd_T35 t606 x7_1).f2) a1_0 a1_1 a1_2 false _ A13.out).mono ?_
       rintro e w20 ⟨rfl, hb⟩
       have HS3_ := (hb.cell (World.block_lt_of_cell? _ _ (hHeld.2.2.2.1))).trans (hHeld.2.2.2.1)
       have HS4_ := (hb.cell (World.block_lt_of_cell? _ _ (hHeld.2.2.2.2.1))).trans (hHeld.2.2.2.2.1)
       have HS5_ := (hb.cell (World.block_lt_of_cell? _ _ (hHeld.2.2.2.2.2))).trans (hHeld.2.2.2.2.2)
       refine ⟨_, rfl, ?_⟩
       have n0_ := Aside0.mk (Kd.R_below q155_ hb)
       have n1_ := Aside0.mk (blk_below (g := gb604) (o := .cells #[.int .i64 a0_0, .slice A0_1 l0_1.length c0_1, .slice A0_2 l0_2.length c0_2] 25 (0, 0)) q62_ hb)
       have n2_ := Aside0.mk (blk_below (g := gb605) (o := .cells #[.int .i64 a1_0, .int .i64 a1_1, .int .i64 a1_2] 35 (0, 0)) q84_ hb)
       have n3_ := Aside0.mk (below_step q46_ hb)
       clear HO_6
       clear BK604
       clear BK605
       clear HB
       have HO_6 := n0_
       have BK604 := n1_
       have BK605 := n2_
       have HB := n3_
       clear n0_ n1_ n2_ n3_
       (try clear hb)
       (try clear hb2)
       (try clear hk)
       (try clear hi)
       refine hK.out _ _ ⟨(blk_cell BK605.out 0).trans rfl, (blk_cell BK605.out 1).trans rfl, (blk_cell BK605.out 2).trans rfl, HS3_, HS4_, HS5_⟩ (fun hHeld => ?_)
       clear hK K
       refine norm_ (a' := ?_) ?_ ?_
       rotate_left
       ·show Act.put _ (some 25) _ = _
        simp only [Act.put, List.setIfInBounds_toArray, List.set_cons_zero, List.set_cons_succ, i64_w, i32_w]
        rfl
       refine pure_ (i := 11) (N := some 26) (v := ?_) (a' := ?_) (bl_ 12 4095) rfl rfl (any_of HT_.out q8_) (fun _ _ _ h => h) (Or.inl ⟨by rfl, ?_⟩) ?_ ?_
       rotate_left
       ·intro w'
        go_simp
        with_reducible rfl
       rotate_left
       ·simp only [Act.put, List.setIfInBounds_toArray, List.set_cons_zero, List.set_cons_succ, i64_w, i32_w]
        rfl
       refine done_ (done_of HT_.out q8_) ?_
       try go_wp2
       have n0_ := Aside0.mk (Kd.R_drew HO_6.out)
       have n1_ := Aside0.mk (blk_drew BK604.out)
       have n2_ := Aside0.mk (blk_drew BK605.out)
       have n3_ := Aside0.mk (below_drew1 HB.out)
       clear HO_6
       clear BK604
       clear BK605
       clear HB
       have HO_6 := n0_
       have BK604 := n1_
       have BK605 := n2_
       have HB := n3_
       clear n0_ n1_ n2_ n3_
       have p611 : 0 ≤ (x7_1 : Int) := of_decide_eq_true q4_
       have q611 : x7_1 < (t606.length : Int) := of_decide_eq_true q4_
       obtain ⟨ad611, e611, hx611_0, hx611_1, hx611_2⟩ := at_T35 (Kd.R_reads' HO_6.out).2.2 x7_1 p611 q611
       obtain rfl : ad609 = ad611 := (by injection e611)
       replace p611 := eq_true p611
       replace q611 := eq_true q611
       refine start_ (n := 15) (S := fun w' => w'.cell? ⟨gb605, 0, none⟩ = some (.int .i64 a1_0) ∧ w'.cell? ⟨gb605, 1, none⟩ = some (.int .i64 a1_1) ∧ w'.cell? ⟨gb605, 2, none⟩ = some (.int .i64 a1_2) ∧ w'.cell? (ad609.add ((x7_1).toNat * 3)) = some (.int .i64 ((rd_T35 t606 x7_1).f0)) ∧ w'.cell? ⟨(ad609.add ((x7_1).toNat * 3)).block, (ad609.add ((x7_1).toNat * 3)).off + 1, none⟩ = some (.int .i64 ((rd_T35 t606 x7_1).f1)) ∧ w'.cell? ⟨(ad609.add ((x7_1).toNat * 3)).block, (ad609.add ((x7_1).toNat * 3)).off + 2, none⟩ = some (.int .i64 ((rd_T35 t606 x7_1).f2))) (ds := []) (bl_ 15 0) q8_ rfl rfl ⟨(blk_cell BK605.out 0).trans rfl, (blk_cell BK605.out 1).trans rfl, (blk_cell BK605.out 2).trans rfl, hx611_0, hx611_1, hx611_2⟩ (fun hHeld => ?_); refine with_tabW cambiumref06_Seek.tab6 cambiumref06_Seek.bits6 (fun HT_ HW_ => ?_)
       generalize w20.drew = w21 at HO_6 BK604 BK605 HB hx611_0 hx611_1 hx611_2 hHeld ⊢
       refine pure_ (i := 0) (N := some 29) (v := ?_) (a' := ?_) (bl_ 15 1) rfl rfl (any_of HT_.out q8_) (fun _ _ _ h => h) (Or.inl ⟨by rfl, ?_⟩) ?_ ?_
       rotate_left
       ·intro w'
        go_simp
        with_reducible rfl
       rotate_left
       ·simp only [Act.put, List.setIfInBounds_toArray, List.set_cons_zero, List.set_cons_succ, i64_w, i32_w]
        rfl
       refine pure_ (i := 1) (N := some 30) (v := ?_) (a' := ?_) (bl_ 15 3) rfl rfl (any_of HT_.out q8_) (fun _ _ _ h => h) (Or.inl ⟨by rfl, ?_⟩) ?_ ?_
       rotate_left
       ·intro w'
        go_simp
        with_reducible rfl
       rotate_left
       ·simp only [Act.put, List.setIfInBounds_toArray, List.set_cons_zero, List.set_cons_succ, i64_w, i32_w]
        rfl
       refine pure_ (i := 2) (N := some 31) (v := ?_) (a' := ?_) (bl_ 15 7) rfl rfl (any_of HT_.out q8_) (fun _ _ _ h => h) (Or.inl ⟨by rfl, ?_⟩) ?_ ?_
       rotate_left
       ·intro w'
        go_simp
        with_reducible rfl
       rotate_left
       ·simp only [Act.put, List.setIfInBounds_toArray, List.set_cons_zero, List.set_cons_succ, i64_w, i32_w]
        rfl
       refine pure_ (i := 3) (N := some 32) (v := ?_) (a' := ?_) (bl_ 15 15) rfl rfl (any_of HT_.out q8_) (fun _ _ _ h => h) (Or.inl ⟨by rfl, ?_⟩) ?_ ?_
       rotate_left
       ·intro w'
        go_simp
        with_reducible rfl
       rotate_left
       ·simp only [Act.put, List.setIfInBounds_toArray, List.set_cons_zero, List.set_cons_succ, i64_w, i32_w]
        rfl
       refine pure_ (i := 4) (N := some 33) (v := ?_) (a' := ?_) (bl_ 15 31) rfl rfl (any_of HT_.out q8_) (fun _ _ _ h => h) (Or.inl ⟨by rfl, ?_⟩) ?_ ?_
       rotate_left
       ·intro w'
        go_simp
        with_reducible rfl
       rotate_left
       ·simp only [Act.put, List.setIfInBounds_toArray, List.set_cons_zero, List.set_cons_succ, i64_w, i32_w]
        rfl
       refine pure_ (i := 5) (N := some 34) (v := ?_) (a' := ?_) (bl_ 15 63) rfl rfl (any_of HT_.out q8_) (fun _ _ _ h => h) (Or.inl ⟨by rfl, ?_⟩) ?_ ?_
       rotate_left
       ·intro w'
        go_simp
        with_reducible rfl
       rotate_left
       ·simp only [Act.put, List.setIfInBounds_toArray, List.set_cons_zero, List.set_cons_succ, i64_w, i32_w]
        rfl
       refine pure_ (i := 6) (N := some 35) (v := ?_) (a' := ?_) (bl_ 15 127) rfl rfl (any_of HT_.out q8_) (fun _ _ _ h => h) (Or.inl ⟨by rfl, ?_⟩) ?_ ?_
       rotate_left
       ·intro w'
        go_simp
        with_reducible rfl
       rotate_left
       ·simp only [Act.put, List.setIfInBounds_toArray, List.set_cons_zero, List.set_cons_succ, i64_w, i32_w]
        rfl
       refine pure_ (i := 7) (N := some 36) (v := ?_) (a' := ?_) (bl_ 15 255) rfl rfl (any_of HT_.out q8_) (fun _ _ _ h => h) (Or.inl ⟨by rfl, ?_⟩) ?_ ?_
       rotate_left
       ·intro w'
        go_simp
        with_reducible rfl
       rotate_left
       ·simp only [Act.put, List.setIfInBounds_toArray, List.set_cons_zero, List.set_cons_succ, i64_w, i32_w]
        rfl
       refine pure_ (i := 8) (N := some 37) (v := ?_) (a' := ?_) (bl_ 15 511) rfl rfl (any_of HT_.out q8_) (fun _ _ _ h => h) (Or.inl ⟨by rfl, ?_⟩) ?_ ?_
       rotate_left
       ·intro w'
        go_simp
        with_reducible rfl
       rotate_left
       ·simp only [Act.put, List.setIfInBounds_toArray, List.set_cons_zero, List.set_cons_succ, i64_w, i32_w]
        rfl
       refine pure_ (i := 13) (N := some 4) (v := ?_) (a' := ?_) (bl_ 15 8703) rfl rfl (any_of HT_.out q8_) (fun _ _ _ h => h) (Or.inl ⟨by rfl, ?_⟩) ?_ ?_
       rotate_left
       ·intro w'
        go_simp
        with_reducible rfl
       rotate_left
       ·simp only [Act.put, List.setIfInBounds_toArray, List.set_cons_zero, List.set_cons_succ, i64_w, i32_w]
        rfl
       refine take_ (i := 9) (N := some 38) (v := ?_) (a' := ?_) (bl_ 15 9215) rfl rfl (take_ofW HT_.out HW_.out q8_) (fun _ _ _ h => h) (Or.inl ⟨by rfl, ?_⟩) hHeld ?_ ?_
       rotate_left
       ·rintro w' ⟨s0, s1, s2, s3, s4, s5⟩
        go_simp
        with_reducible rfl
       rotate_left
       ·simp only [Act.put, List.setIfInBounds_toArray, List.set_cons_zero, List.set_cons_succ, i64_w, i32_w]
        rfl
       refine take_ (i := 10) (N := some 39) (v := ?_) (a' := ?_) (bl_ 15 10239) rfl rfl (take_ofW HT_.out HW_.out q8_) (fun _ _ _ h => h) (Or.inl ⟨by rfl, ?_⟩) hHeld ?_ ?_
       rotate_left
       ·rintro w' ⟨s0, s1, s2, s3, s4, s5⟩
        go_simp
        with_reducible rfl
       rotate_left
       ·simp only [Act.put, List.setIfInBounds_toArray, List.set_cons_zero, List.set_cons_succ, i64_w, i32_w]
        rfl
       refine pure_ (i := 11) (N := some 40) (v := ?_) (a' := ?_) (bl_ 15 12287) rfl rfl (any_of HT_.out q8_) (fun _ _ _ h => h) (Or.inl ⟨by rfl, ?_⟩) ?_ ?_
       rotate_left
       ·intro w'
        go_simp
        with_reducible rfl
       rotate_left
       ·simp only [Act.put, List.setIfInBounds_toArray, List.set_cons_zero, List.set_cons_succ, i64_w, i32_w]
        rfl
       refine pure_ (i := 12) (N := some 41) (v := ?_) (a' := ?_) (bl_ 15 16383) rfl rfl (any_of HT_.out q8_) (fun _ _ _ h => h) (Or.inl ⟨by rfl, ?_⟩) ?_ ?_
       rotate_left
       ·intro w'
        go_simp
        with_reducible rfl
       rotate_left
       ·simp only [Act.put, List.setIfInBounds_toArray, List.set_cons_zero, List.set_cons_succ, i64_w, i32_w]
        rfl
       refine pure_ (i := 14) (N := some 5) (v := ?_) (a' := ?_) (bl_ 15 32767) rfl rfl (any_of HT_.out q8_) (fun _ _ _ h => h) (Or.inl ⟨by rfl, ?_⟩) ?_ ?_
       rotate_left
       ·intro w'
        go_simp
        with_reducible rfl
       rotate_left
       ·simp only [Act.put, List.setIfInBounds_toArray, List.set_cons_zero, List.set_cons_succ, i64_w, i32_w]
        rfl
       refine done_ (done_of HT_.out q8_) ?_
       try go_wp2
       go_ret2
       exact ⟨q6_, by repeat (first | (with_reducible first | exact HB.out | apply below_alloc | apply pw_below_drewN | apply below_drew1 | refine below_set ?_ GE604.out | refine below_set ?_ GE605.out) | exact HB.out)⟩
     ·rw [if_neg c12] at H
      exact absurd H (by simp)
    ·rw [if_neg c11] at H
     have c11b0 : decide (x7_1 < (t606.length : Int)) = false := decide_eq_false c11
     clear c11
     simp only [Option.some.injEq, Prod.mk.injEq] at H
     obtain ⟨rfl, rfl⟩ := H
     try go_wp2
     have n0_ := Aside0.mk (Kd.R_drew HO_6.out)
     have n1_ := Aside0.mk (blk_drew BK604.out)
     have n2_ := Aside0.mk (blk_drew BK605.out)
     have n3_ := Aside0.mk (below_drew1 HB.out)
     clear HO_6
     clear BK604
     clear BK605
     clear HB
     have HO_6 := n0_
     have BK604 := n1_
     have BK605 := n2_
     have HB := n3_
     clear n0_ n1_ n2_ n3_
     obtain ⟨Ao23, co23, eo23⟩ := Kd.R_slice HO_6.out
     (first | subst eo23 | (injection eo23 with f1_ f2_ f3_; have f4_ := f1_.symm; have f5_ := f3_.symm; clear f1_ f2_ f3_; subst f4_; subst f5_))
     refine start_ (n := 12) (S := fun w' => True) (ds := []) (bl_ 12 0) q8_ rfl rfl trivial (fun hHeld => ?_); refine with_tabW cambiumref06_Seek.tab4 cambiumref06_Seek.bits4 (fun HT_ HW_ => ?_)
     generalize wr.drew = w22 at HO_6 BK604 BK605 HB hHeld ⊢
     refine pure_ (i := 0) (N := some 15) (v := ?_) (a' := ?_) (bl_ 12 1) rfl rfl (any_of HT_.out q8_) (fun _ _ _ h => h) (Or.inl ⟨by rfl, ?_⟩) ?_ ?_
     rotate_left
     ·intro w'
      go_simp
      with_reducible rfl
     rotate_left
     ·simp only [Act.put, List.setIfInBounds_toArray, List.set_cons_zero, List.set_cons_succ, i64_w, i32_w]
      rfl
     refine pure_ (i := 1) (N := some 16) (v := ?_) (a' := ?_) (bl_ 12 3) rfl rfl (any_of HT_.out q8_) (fun _ _ _ h => h) (Or.inl ⟨by rfl, ?_⟩) ?_ ?_
     rotate_left
     ·intro w'
      go_simp
      with_reducible rfl
     rotate_left
     ·simp only [Act.put, List.setIfInBounds_toArray, List.set_cons_zero, List.set_cons_succ, i64_w, i32_w]
      rfl
     refine pure_ (i := 2) (N := some 17) (v := ?_) (a' := ?_) (bl_ 12 7) rfl rfl (any_of HT_.out q8_) (fun _ _ _ h => h) (Or.inl ⟨by rfl, ?_⟩) ?_ ?_
     rotate_left
     ·intro w'
      go_simp
      with_reducible rfl
     rotate_left
     ·simp only [Act.put, List.setIfInBounds_toArray, List.set_cons_zero, List.set_cons_succ, i64_w, i32_w]
      rfl
     refine pure_ (i := 3) (N := some 18) (v := ?_) (a' := ?_) (bl_ 12 15) rfl rfl (any_of HT_.out q8_) (fun _ _ _ h => h) (Or.inl ⟨by rfl, ?_⟩) ?_ ?_
     rotate_left
     ·intro w'
      go_simp
      with_reducible rfl
     rotate_left
     ·simp only [Act.put, List.setIfInBounds_toArray, List.set_cons_zero, List.set_cons_succ, i64_w, i32_w]
      rfl
     refine pure_ (i := 4) (N := some 19) (v := ?_) (a' := ?_) (bl_ 12 31) rfl rfl (any_of HT_.out q8_) (fun _ _ _ h => h) (Or.inl ⟨by rfl, ?_⟩) ?_ ?_
     rotate_left
     ·intro w'
      go_simp
      with_reducible rfl
     rotate_left
     ·simp only [Act.put, List.setIfInBounds_toArray, List.set_cons_zero, List.set_cons_succ, i64_w, i32_w]
      rfl
     refine pure_ (i := 5) (N := some 20) (v := undef) (a' := ?_) (bl_ 12 63) rfl rfl (any_of HT_.out q8_) (fun _ _ _ h => h) (Or.inr ⟨by rfl, rfl⟩) ?_ ?_
     rotate_left
     ·simp only [Act.put, List.setIfInBounds_toArray, List.set_cons_zero, List.set_cons_succ, i64_w, i32_w]
      rfl
     refine pure_ (i := 6) (N := some 21) (v := undef) (a' := ?_) (bl_ 12 127) rfl rfl (any_of HT_.out q8_) (fun _ _ _ h => h) (Or.inr ⟨by rfl, rfl⟩) ?_ ?_
     rotate_left
     ·simp only [Act.put, List.setIfInBounds_toArray, List.set_cons_zero, List.set_cons_succ, i64_w, i32_w]
      rfl
     refine pure_ (i := 7) (N := some 22) (v := undef) (a' := ?_) (bl_ 12 255) rfl rfl (any_of HT_.out q8_) (fun _ _ _ h => h) (Or.inr ⟨by rfl, rfl⟩) ?_ ?_
     rotate_left
     ·simp only [Act.put, List.setIfInBounds_toArray, List.set_cons_zero, List.set_cons_succ, i64_w, i32_w]
      rfl
     refine pure_ (i := 8) (N := some 23) (v := undef) (a' := ?_) (bl_ 12 511) rfl rfl (any_of HT_.out q8_) (fun _ _ _ h => h) (Or.inr ⟨by rfl, rfl⟩) ?_ ?_
     rotate_left
     ·simp only [Act.put, List.setIfInBounds_toArray, List.set_cons_zero, List.set_cons_succ, i64_w, i32_w]
      rfl
     refine pure_ (i := 9) (N := some 24) (v := undef) (a' := ?_) (bl_ 12 1023) rfl rfl (any_of HT_.out q8_) (fun _ _ _ h => h) (Or.inr ⟨by rfl, rfl⟩) ?_ ?_
     rotate_left
     ·simp only [Act.put, List.setIfInBounds_toArray, List.set_cons_zero, List.set_cons_succ, i64_w, i32_w]
      rfl
     refine pure_ (i := 10) (N := some 25) (v := undef) (a' := ?_) (bl_ 12 2047) rfl rfl (any_of HT_.out q8_) (fun _ _ _ h => h) (Or.inr ⟨by rfl, rfl⟩) ?_ ?_
     rotate_left
     ·simp only [Act.put, List.setIfInBounds_toArray, List.set_cons_zero, List.set_cons_succ, i64_w, i32_w]
      rfl
     refine pure_ (i := 11) (N := some 26) (v := ?_) (a' := ?_) (bl_ 12 4095) rfl rfl (any_of HT_.out q8_) (fun _ _ _ h => h) (Or.inl ⟨by rfl, ?_⟩) ?_ ?_
     rotate_left
     ·intro w'
      go_simp
      with_reducible rfl
     rotate_left
     ·simp only [Act.put, List.setIfInBounds_toArray, List.set_cons_zero, List.set_cons_succ, i64_w, i32_w]
      rfl
     refine done_ (done_of HT_.out q8_) ?_
     try go_wp2
     have n0_ := Aside0.mk (Kd.R_drew HO_6.out)
     have n1_ := Aside0.mk (blk_drew BK604.out)
     have n2_ := Aside0.mk (blk_drew BK605.out)
     have n3_ := Aside0.mk (below_drew1 HB.out)
     clear HO_6
     clear BK604
     clear BK605
     clear HB
     have HO_6 := n0_
     have BK604 := n1_
     have BK605 := n2_
     have HB := n3_
     clear n0_ n1_ n2_ n3_
     refine start_ (n := 15) (S := fun w' => True) (ds := []) (bl_ 15 0) q8_ rfl rfl trivial (fun hHeld => ?_); refine with_tabW cambiumref06_Seek.tab6 cambiumref06_Seek.bits6 (fun HT_ HW_ => ?_)
     generalize w22.drew = w24 at HO_6 BK604 BK605 HB hHeld ⊢
     refine pure_ (i := 0) (N := some 29) (v := ?_) (a' := ?_) (bl_ 15 1) rfl rfl (any_of HT_.out q8_) (fun _ _ _ h => h) (Or.inl ⟨by rfl, ?_⟩) ?_ ?_
     rotate_left
     ·intro w'
      go_simp
      with_reducible rfl
     rotate_left
     ·simp only [Act.put, List.setIfInBounds_toArray, List.set_cons_zero, List.set_cons_succ, i64_w, i32_w]
      rfl
     refine pure_ (i := 1) (N := some 30) (v := ?_) (a' := ?_) (bl_ 15 3) rfl rfl (any_of HT_.out q8_) (fun _ _ _ h => h) (Or.inl ⟨by rfl, ?_⟩) ?_ ?_
     rotate_left
     ·intro w'
      go_simp
      with_reducible rfl
     rotate_left
     ·simp only [Act.put, List.setIfInBounds_toArray, List.set_cons_zero, List.set_cons_succ, i64_w, i32_w]
      rfl
     refine pure_ (i := 2) (N := some 31) (v := ?_) (a' := ?_) (bl_ 15 7) rfl rfl (any_of HT_.out q8_) (fun _ _ _ h => h) (Or.inl ⟨by rfl, ?_⟩) ?_ ?_
     rotate_left
     ·intro w'
      go_simp
      with_reducible rfl
     rotate_left
     ·simp only [Act.put, List.setIfInBounds_toArray, List.set_cons_zero, List.set_cons_succ, i64_w, i32_w]
      rfl
     refine pure_ (i := 3) (N := some 32) (v := ?_) (a' := ?_) (bl_ 15 15) rfl rfl (any_of HT_.out q8_) (fun _ _ _ h => h) (Or.inl ⟨by rfl, ?_⟩) ?_ ?_
     rotate_left
     ·intro w'
      go_simp
      with_reducible rfl
     rotate_left
     ·simp only [Act.put, List.setIfInBounds_toArray, List.set_cons_zero, List.set_cons_succ, i64_w, i32_w]
      rfl
     refine pure_ (i := 4) (N := some 33) (v := ?_) (a' := ?_) (bl_ 15 31) rfl rfl (any_of HT_.out q8_) (fun _ _ _ h => h) (Or.inl ⟨by rfl, ?_⟩) ?_ ?_
     rotate_left
     ·intro w'
      go_simp
      with_reducible rfl
     rotate_left
     ·simp only [Act.put, List.setIfInBounds_toArray, List.set_cons_zero, List.set_cons_succ, i64_w, i32_w]
      rfl
     refine pure_ (i := 5) (N := some 34) (v := ?_) (a' := ?_) (bl_ 15 63) rfl rfl (any_of HT_.out q8_) (fun _ _ _ h => h) (Or.inl ⟨by rfl, ?_⟩) ?_ ?_
     rotate_left
     ·intro w'
      go_simp
      with_reducible rfl
     rotate_left
     ·simp only [Act.put, List.setIfInBounds_toArray, List.set_cons_zero, List.set_cons_succ, i64_w, i32_w]
      rfl
     refine pure_ (i := 6) (N := some 35) (v := undef) (a' := ?_) (bl_ 15 127) rfl rfl (any_of HT_.out q8_) (fun _ _ _ h => h) (Or.inr ⟨by rfl, rfl⟩) ?_ ?_
     rotate_left
     ·simp only [Act.put, List.setIfInBounds_toArray, List.set_cons_zero, List.set_cons_succ, i64_w, i32_w]
      rfl
     refine pure_ (i := 7) (N := some 36) (v := undef) (a' := ?_) (bl_ 15 255) rfl rfl (any_of HT_.out q8_) (fun _ _ _ h => h) (Or.inr ⟨by rfl, rfl⟩) ?_ ?_
     rotate_left
     ·simp only [Act.put, List.setIfInBounds_toArray, List.set_cons_zero, List.set_cons_succ, i64_w, i32_w]
      rfl
     refine pure_ (i := 8) (N := some 37) (v := undef) (a' := ?_) (bl_ 15 511) rfl rfl (any_of HT_.out q8_) (fun _ _ _ h => h) (Or.inr ⟨by rfl, rfl⟩) ?_ ?_
     rotate_left
     ·simp only [Act.put, List.setIfInBounds_toArray, List.set_cons_zero, List.set_cons_succ, i64_w, i32_w]
      rfl
     refine pure_ (i := 9) (N := some 38) (v := undef) (a' := ?_) (bl_ 15 1023) rfl rfl (any_of HT_.out q8_) (fun _ _ _ h => h) (Or.inr ⟨by rfl, rfl⟩) ?_ ?_
     rotate_left
     ·simp only [Act.put, List.setIfInBounds_toArray, List.set_cons_zero, List.set_cons_succ, i64_w, i32_w]
      rfl
     refine pure_ (i := 10) (N := some 39) (v := undef) (a' := ?_) (bl_ 15 2047) rfl rfl (any_of HT_.out q8_) (fun _ _ _ h => h) (Or.inr ⟨by rfl, rfl⟩) ?_ ?_
     rotate_left
     ·simp only [Act.put, List.setIfInBounds_toArray, List.set_cons_zero, List.set_cons_succ, i64_w, i32_w]
      rfl
     refine pure_ (i := 11) (N := some 40) (v := undef) (a' := ?_) (bl_ 15 4095) rfl rfl (any_of HT_.out q8_) (fun _ _ _ h => h) (Or.inr ⟨by rfl, rfl⟩) ?_ ?_
     rotate_left
     ·simp only [Act.put, List.setIfInBounds_toArray, List.set_cons_zero, List.set_cons_succ, i64_w, i32_w]
      rfl
     refine pure_ (i := 12) (N := some 41) (v := ?_) (a' := ?_) (bl_ 15 8191) rfl rfl (any_of HT_.out q8_) (fun _ _ _ h => h) (Or.inl ⟨by rfl, ?_⟩) ?_ ?_
     rotate_left
     ·intro w'
      go_simp
      with_reducible rfl
     rotate_left
     ·simp only [Act.put, List.setIfInBounds_toArray, List.set_cons_zero, List.set_cons_succ, i64_w, i32_w]
      rfl
     refine pure_ (i := 13) (N := some 4) (v := ?_) (a' := ?_) (bl_ 15 16383) rfl rfl (any_of HT_.out q8_) (fun _ _ _ h => h) (Or.inl ⟨by rfl, ?_⟩) ?_ ?_
     rotate_left
     ·intro w'
      go_simp
      with_reducible rfl
     rotate_left
     ·simp only [Act.put, List.setIfInBounds_toArray, List.set_cons_zero, List.set_cons_succ, i64_w, i32_w]
      rfl
     refine pure_ (i := 14) (N := some 5) (v := ?_) (a' := ?_) (bl_ 15 32767) rfl rfl (any_of HT_.out q8_) (fun _ _ _ h => h) (Or.inl ⟨by rfl, ?_⟩) ?_ ?_
     rotate_left
     ·intro w'
      go_simp
      with_reducible rfl
     rotate_left
     ·simp only [Act.put, List.setIfInBounds_toArray, List.set_cons_zero, List.set_cons_succ, i64_w, i32_w]
      rfl
     refine done_ (done_of HT_.out q8_) ?_
     try go_wp2
     go_ret2
     exact ⟨q6_, by repeat (first | (with_reducible first | exact HB.out | apply below_alloc | apply pw_below_drewN | apply below_drew1 | refine below_set ?_ GE604.out | refine below_set ?_ GE605.out) | exact HB.out)⟩
 ·rw [if_neg c4] at H
  have c4b0 : (a0_0 == 0) = false := beq_eq_false_iff_ne.mpr c4
  have c4b1 : (a0_0 != 0) = true := bne_iff_ne.mpr c4
  have H' := Aside0.mk H
  clear H
  go_enter Try.func19, Try.ntmps19
  go_wp2_with (first | ((with_reducible refine gate_dst (N := 2) rfl ?_); refine box_event ?hg (N := 2) ?hd (cs := #[.int .i64 a0_0, .slice A0_1 l0_1.length c0_1, .slice A0_2 l0_2.length c0_2]) (t := 25) ?hr ?_; (case hd => rfl); (case hg => rfl); (case hr => first | (go_simp; done) | (go_simp; rfl)); intro gb604 hg w25 hbox hb; have n0_ := Aside0.mk (below_step q0_ hb); have n1_ := Aside0.mk (hbox); have n2_ := Aside0.mk ((by rw [hg]; exact (below_size q0_) : w.heap.size ≤ gb604)); have n3_ := Aside0.mk ((by rw [hg]; exact (below_size q0_) : w.heap.size ≤ gb604)); clear HB; have HB := n0_; have BK604 := n1_; have GW604 := n2_; have GE604 := n3_; clear n0_ n1_ n2_ n3_; clear hb hbox hg) | ((with_reducible refine gate_dst (N := 3) rfl ?_); refine box_event ?hg (N := 3) ?hd (cs := #[.int .i64 a1_0, .int .i64 a1_1, .int .i64 a1_2]) (t := 35) ?hr ?_; (case hd => rfl); (case hg => rfl); (case hr => first | (go_simp; done) | (go_simp; rfl)); intro gb605 hg w26 hbox hb; have n0_ := Aside0.mk (blk_below (g := gb604) (o := .cells #[.int .i64 a0_0, .slice A0_1 l0_1.length c0_1, .slice A0_2 l0_2.length c0_2] 25 (0, 0)) q62_ hb); have n1_ := Aside0.mk (below_step q122_ hb); have n2_ := Aside0.mk (hbox); have n3_ := Aside0.mk ((by rw [hg]; exact (below_size q122_) : w.heap.size ≤ gb605)); have n4_ := Aside0.mk ((by rw [hg]; exact (below_size q122_) : w.heap.size ≤ gb605)); have n5_ := Aside0.mk ((by rw [hg]; exact Nat.ne_of_lt (blk_lt (g := gb604) (o := .cells #[.int .i64 a0_0, .slice A0_1 l0_1.length c0_1, .slice A0_2 l0_2.length c0_2] 25 (0, 0)) q62_) : gb604 ≠ gb605)); have n6_ := Aside0.mk ((by rw [hg]; exact Nat.ne_of_gt (blk_lt (g := gb604) (o := .cells #[.int .i64 a0_0, .slice A0_1 l0_1.length c0_1, .slice A0_2 l0_2.length c0_2] 25 (0, 0)) q62_) : gb605 ≠ gb604)); clear BK604; clear HB; have BK604 := n0_; have HB := n1_; have BK605 := n2_; have GW605 := n3_; have GE605 := n4_; have NB604_605 := n5_; have NB605_604 := n6_; clear n0_ n1_ n2_ n3_ n4_ n5_ n6_; clear hb hbox hg; have hnb27 := NB604_605.out; have hnc27 := NB605_604.out; have hcz28_0 : w26.cell? ⟨gb604, 0, none⟩ = some (.int .i64 a0_0) := (blk_cell BK604.out 0).trans rfl; have hcz28_1 : w26.cell? ⟨gb604, 1, none⟩ = some (.slice A0_1 l0_1.length c0_1) := (blk_cell BK604.out 1).trans rfl; have hcz28_2 : w26.cell? ⟨gb604, 2, none⟩ = some (.slice A0_2 l0_2.length c0_2) := (blk_cell BK604.out 2).trans rfl; have hfz28_0 := blk_frozen BK604.out 0; have hfz28_1 := blk_frozen BK604.out 1; have hfz28_2 := blk_frozen BK604.out 2) | ((with_reducible refine gate_callee (f := 16) rfl ?_); refine goesL_ (some 11) rfl rfl Try.func16 q8_ rfl #[.agg #[.int .i64 a0_0, .slice A0_1 l0_1.length c0_1, .slice A0_2 l0_2.length c0_2]] rfl q1_ ?_; (with_reducible refine (cambiumref06_Keys.calls k a0_0 _ _ l0_1 _ _ l0_2 t606 _ ?side1 ?side2 ?side3 ?side4 A3.out).mono ?_); (case side1 => repeat (first | exact (Kd.C_below HR0_1.out HB.out) | (with_reducible refine Kd.C_alloc ?_ _) | (with_reducible refine Kd.C_drewN ?_ _) | (with_reducible refine Kd.C_drew ?_))); (case side2 => exact HC0_1.out); (case side3 => repeat (first | exact (Kd.C_below HR0_2.out HB.out) | (with_reducible refine Kd.C_alloc ?_ _) | (with_reducible refine Kd.C_drewN ?_ _) | (with_reducible refine Kd.C_drew ?_))); (case side4 => exact HC0_2.out); rintro e w29 ⟨v607, rfl, ho0, hb⟩; refine ⟨_, rfl, ?_⟩; have n0_ := Aside0.mk (Kd.R_lower (Kd.R_newB ho0 (g := gb605) (o := .cells #[.int .i64 a1_0, .int .i64 a1_1, .int .i64 a1_2] 35 (0, 0)) q84_) (below_size q46_)); have n1_ := Aside0.mk (blk_below (g := gb604) (o := .cells #[.int .i64 a0_0, .slice A0_1 l0_1.length c0_1, .slice A0_2 l0_2.length c0_2] 25 (0, 0)) q62_ hb); have n2_ := Aside0.mk (blk_below (g := gb605) (o := .cells #[.int .i64 a1_0, .int .i64 a1_1, .int .i64 a1_2] 35 (0, 0)) q84_ hb); have n3_ := Aside0.mk (below_step q46_ hb); clear BK604; clear BK605; clear HB; have HO608 := n0_; have BK604 := n1_; have BK605 := n2_; have HB := n3_; clear n0_ n1_ n2_ n3_; (try clear hb); (try clear hb2); (try clear hk); (try clear hi); (try clear ho0); have hcz30_0 : w29.cell? ⟨gb604, 0, none⟩ = some (.int .i64 a0_0) := (blk_cell BK604.out 0).trans rfl; have hcz30_1 : w29.cell? ⟨gb604, 1, none⟩ = some (.slice A0_1 l0_1.length c0_1) := (blk_cell BK604.out 1).trans rfl; have hcz30_2 : w29.cell? ⟨gb604, 2, none⟩ = some (.slice A0_2 l0_2.length c0_2) := (blk_cell BK604.out 2).trans rfl; have hfz30_0 := blk_frozen BK604.out 0; have hfz30_1 := blk_frozen BK604.out 1; have hfz30_2 := blk_frozen BK604.out 2))
  go_loopg [8, 9] k (fun kq v8 v9 w' => ∃ (x8_1 : Int) (x9_1 : Int), v8 = .int .i64 x8_1 ∧ v9 = .int .i64 x9_1 ∧ Aside0 (cambiumref06_Seek.l1 kq t606 x8_1 x9_1 a1_0 a1_1 a1_2 = some (r1, r2)) ∧ Aside0 (kq ≤ k) ∧ Aside0 (Kd.R k35 35 w' w.heap.size (fun k_ => k_ ≠ gb605) v607 t606) ∧ Aside0 (w'.heap[gb604]? = some (.cells #[.int .i64 a0_0, (.slice A0_1 l0_1.length c0_1), (.slice A0_2 l0_2.length c0_2)] 25 (0, 0))) ∧ Aside0 (w'.heap[gb605]? = some (.cells #[.int .i64 a1_0, .int .i64 a1_1, .int .i64 a1_2] 35 (0, 0))) ∧ Aside0 (Below w.heap.size w w'))
  case atStart => exact ⟨(0), (0), q14_, q14_, H', ⟨Nat.le_refl _⟩, ⟨by (with_reducible repeat (first | apply Kd.R_alloc | apply Kd.R_drewN | apply Kd.R_drew)); exact Kd.R_mono HO608.out (fun _ hk => hk.2)⟩, ⟨q62_⟩, ⟨q84_⟩, ⟨q46_⟩⟩
  case round =>
   clear H'
   try clear c1
   try clear c2
   try clear p2
   try clear c4
   try clear c4b0
   try clear c4b1
   try clear p6
   try clear q6
   try clear hx6
   try clear c11
   try clear c11b0
   try clear c12
   try clear c14
   try clear c16
   try clear c17
   try clear c19
   try clear c27
   try clear hcz28_0
   try clear hcz28_1
   try clear hcz28_2
   try clear hcz30_0
   try clear hcz30_1
   try clear hcz30_2
   try clear hfz28_0
   try clear hfz28_1
   try clear hfz28_2
   try clear hfz30_0
   try clear hfz30_1
   try clear hfz30_2
   try clear hx609_0
   try clear hx609_1
   try clear hx609_2
   try clear hx611_0
   try clear hx611_1
   try clear hx611_2
   try clear p609
   try clear p611
   try clear q609
   try clear q611
   obtain ⟨x8_1, x9_1, rfl, rfl, HA, HK1, HO_6, BK604, BK605, HB⟩ := hrel
   cases gk with
   | zero => exact absurd (show none = some _ from HA.out) (by simp)
   | succ k1 =>
    have H := HA.out
    clear HA
    simp only [cambiumref06_Seek.l1] at H
    by_cases c31 : x9_1 < (t606.length : Int)
    ·rw [if_pos c31] at H
     have c31b0 : decide (x9_1 < (t606.length : Int)) = true := decide_eq_true c31
     clear c31
     by_cases c32 : 0 ≤ x9_1
     ·rw [if_pos c32] at H
      have c32b0 : decide (0 ≤ x9_1) = true := decide_eq_true c32
      clear c32
      replace H := Option.bind_eq_some_iff.mp H
      obtain ⟨t613, A330, H⟩ := H
      replace H : (if t613 = true then (cambiumref06_Seek.l1 k1 t606 x8_1 (wrap64 (x9_1 + 1)) a1_0 a1_1 a1_2) else (cambiumref06_Seek.l1 k1 t606 x9_1 (wrap64 (x9_1 + 1)) a1_0 a1_1 a1_2)) = some (r1, r2) := H
      have A33 := Aside0.mk A330
      clear A330
      by_cases c34 : t613 = true
      ·subst c34
       have H1 : (cambiumref06_Seek.l1 k1 t606 x8_1 (wrap64 (x9_1 + 1)) a1_0 a1_1 a1_2) = some (r1, r2) := by rw [if_pos rfl] at H; exact H
       clear H
       have H := H1
       clear H1
       have H' := Aside0.mk H
       clear H
       obtain ⟨Ao35, co35, eo35⟩ := Kd.R_slice HO_6.out
       subst eo35
       try go_wp2
       have n0_ := Aside0.mk (Kd.R_drew HO_6.out)
       have n1_ := Aside0.mk (blk_drew BK604.out)
       have n2_ := Aside0.mk (blk_drew BK605.out)
       have n3_ := Aside0.mk (below_drew1 HB.out)
       clear HO_6
       clear BK604
       clear BK605
       clear HB
       have HO_6 := n0_
       have BK604 := n1_
       have BK605 := n2_
       have HB := n3_
       clear n0_ n1_ n2_ n3_
       have p612 : 0 ≤ (x9_1 : Int) := of_decide_eq_true q4_
       have q612 : x9_1 < (t606.length : Int) := of_decide_eq_true q4_
       obtain ⟨ad612, e612, hx612_0, hx612_1, hx612_2⟩ := at_T35 (Kd.R_reads' HO_6.out).2.2 x9_1 p612 q612
       cases e612
       replace p612 := eq_true p612
       replace q612 := eq_true q612
       refine start_ (n := 7) (S := fun w' => w'.cell? ⟨gb605, 0, none⟩ = some (.int .i64 a1_0) ∧ w'.cell? ⟨gb605, 1, none⟩ = some (.int .i64 a1_1) ∧ w'.cell? ⟨gb605, 2, none⟩ = some (.int .i64 a1_2) ∧ w'.cell? (ad612.add ((x9_1).toNat * 3)) = some (.int .i64 ((rd_T35 t606 x9_1).f0)) ∧ w'.cell? ⟨(ad612.add ((x9_1).toNat * 3)).block, (ad612.add ((x9_1).toNat * 3)).off + 1, none⟩ = some (.int .i64 ((rd_T35 t606 x9_1).f1)) ∧ w'.cell? ⟨(ad612.add ((x9_1).toNat * 3)).block, (ad612.add ((x9_1).toNat * 3)).off + 2, none⟩ = some (.int .i64 ((rd_T35 t606 x9_1).f2))) (ds := []) (bl_ 7 0) q8_ rfl rfl ⟨(blk_cell BK605.out 0).trans rfl, (blk_cell BK605.out 1).trans rfl, (blk_cell BK605.out 2).trans rfl, hx612_0, hx612_1, hx612_2⟩ (fun hHeld => ?_)
       generalize wr.drew = w36 at HO_6 BK604 BK605 HB hx612_0 hx612_1 hx612_2 hHeld ⊢
       refine pure_ (i := 1) (N := some 49) (v := ?_) (a' := ?_) (bl_ 7 2) rfl rfl q8_ (fun _ _ _ h => h) (Or.inl ⟨by rfl, ?_⟩) ?_ ?_
       rotate_left
       ·intro w'
        go_simp
        with_reducible rfl
       rotate_left
       ·simp only [Act.put, List.setIfInBounds_toArray, List.set_cons_zero, List.set_cons_succ, i64_w, i32_w]
        rfl
       refine pure_ (i := 2) (N := some 50) (v := ?_) (a' := ?_) (bl_ 7 6) rfl rfl q8_ (fun _ _ _ h => h) (Or.inl ⟨by rfl, ?_⟩) ?_ ?_
       rotate_left
       ·intro w'
        go_simp
        with_reducible rfl
       rotate_left
       ·simp only [Act.put, List.setIfInBounds_toArray, List.set_cons_zero, List.set_cons_succ, i64_w, i32_w]
        rfl
       refine pure_ (i := 3) (N := some 51) (v := ?_) (a' := ?_) (bl_ 7 14) rfl rfl q8_ (fun _ _ _ h => h) (Or.inl ⟨by rfl, ?_⟩) ?_ ?_
       rotate_left
       ·intro w'
        go_simp
        with_reducible rfl
       rotate_left
       ·simp only [Act.put, List.setIfInBounds_toArray, List.set_cons_zero, List.set_cons_succ, i64_w, i32_w]
        rfl
       refine take_ (i := 0) (N := some 48) (v := ?_) (a' := ?_) (bl_ 7 15) rfl rfl q8_ (fun _ _ _ h => h) (Or.inl ⟨by rfl, ?_⟩) hHeld ?_ ?_
       rotate_left
       ·rintro w' ⟨s0, s1, s2, s3, s4, s5⟩
        go_simp
        with_reducible rfl
       rotate_left
       ·simp only [Act.put, List.setIfInBounds_toArray, List.set_cons_zero, List.set_cons_succ, i64_w, i32_w]
        rfl
       refine take_ (i := 4) (N := some 52) (v := ?_) (a' := ?_) (bl_ 7 31) rfl rfl q8_ (fun _ _ _ h => h) (Or.inl ⟨by rfl, ?_⟩) hHeld ?_ ?_
       rotate_left
       ·rintro w' ⟨s0, s1, s2, s3, s4, s5⟩
        go_simp
        with_reducible rfl
       rotate_left
       ·simp only [Act.put, List.setIfInBounds_toArray, List.set_cons_zero, List.set_cons_succ, i64_w, i32_w]
        rfl
       refine one_ (i := 5) (N := some 53) (bl_ 7 63) rfl rfl q8_ q210_ (fun K hK => ?_)
       refine goes_ Try.func17 q8_ rfl #[.agg #[.int .i64 a1_0, .int .i64 a1_1, .int .i64 a1_2], .agg #[.int .i64 ((rd_T35 t606 x9_1).f0), .int .i64 ((rd_T35 t606 x9_1).f1), .int .i64 ((rd_T35 t606 x9_1).f2)]] (by rfl) rfl rfl q1_ ?_
       with_reducible refine (cambiumref05_Less.calls a1_0 a1_1 a1_2 ((rd_T35 t606 x9_1).f0) ((rd_T35 t606 x9_1).f1) ((rd_T35 t606 x9_1).f2) true _ A33.out).mono ?_
       rintro e w37 ⟨rfl, hb⟩
       have HS3_ := (hb.cell (World.block_lt_of_cell? _ _ (hHeld.2.2.2.1))).trans (hHeld.2.2.2.1)
       have HS4_ := (hb.cell (World.block_lt_of_cell? _ _ (hHeld.2.2.2.2.1))).trans (hHeld.2.2.2.2.1)
       have HS5_ := (hb.cell (World.block_lt_of_cell? _ _ (hHeld.2.2.2.2.2))).trans (hHeld.2.2.2.2.2)
       refine ⟨_, rfl, ?_⟩
       have n0_ := Aside0.mk (Kd.R_below q155_ hb)
       have n1_ := Aside0.mk (blk_below (g := gb604) (o := .cells #[.int .i64 a0_0, .slice A0_1 l0_1.length c0_1, .slice A0_2 l0_2.length c0_2] 25 (0, 0)) q62_ hb)
       have n2_ := Aside0.mk (blk_below (g := gb605) (o := .cells #[.int .i64 a1_0, .int .i64 a1_1, .int .i64 a1_2] 35 (0, 0)) q84_ hb)
       have n3_ := Aside0.mk (below_step q46_ hb)
       clear HO_6
       clear BK604
       clear BK605
       clear HB
       have HO_6 := n0_
       have BK604 := n1_
       have BK605 := n2_
       have HB := n3_
       clear n0_ n1_ n2_ n3_
       (try clear hb)
       (try clear hb2)
       (try clear hk)
       (try clear hi)
       refine hK.out _ _ ⟨(blk_cell BK605.out 0).trans rfl, (blk_cell BK605.out 1).trans rfl, (blk_cell BK605.out 2).trans rfl, HS3_, HS4_, HS5_⟩ (fun hHeld => ?_)
       clear hK K
       refine norm_ (a' := ?_) ?_ ?_
       rotate_left
       ·show Act.put _ (some 53) _ = _
        simp only [Act.put, List.setIfInBounds_toArray, List.set_cons_zero, List.set_cons_succ, i64_w, i32_w]
        rfl
       refine pure_ (i := 6) (N := some 54) (v := ?_) (a' := ?_) (bl_ 7 127) rfl rfl q8_ (fun _ _ _ h => h) (Or.inl ⟨by rfl, ?_⟩) ?_ ?_
       rotate_left
       ·intro w'
        go_simp
        with_reducible rfl
       rotate_left
       ·simp only [Act.put, List.setIfInBounds_toArray, List.set_cons_zero, List.set_cons_succ, i64_w, i32_w]
        rfl
       refine done_ q8_ ?_
       try go_wp2
       go_roundg k1
       case measure => have := HK1.out; omega
       case rel => exact ⟨(x8_1), (wrap64 (x9_1 + 1)), q14_, q14_, H', ⟨by have := HK1.out; omega⟩, ⟨q155_⟩, ⟨q62_⟩, ⟨q84_⟩, ⟨q46_⟩⟩
      ·replace c34 := Bool.eq_false_iff.mpr c34
       subst c34
       have H1 : (cambiumref06_Seek.l1 k1 t606 x9_1 (wrap64 (x9_1 + 1)) a1_0 a1_1 a1_2) = some (r1, r2) := by rw [if_neg (show ¬ (false = true) by decide)] at H; exact H
       clear H
       have H := H1
       clear H1
       have H' := Aside0.mk H
       clear H
       obtain ⟨Ao38, co38, eo38⟩ := Kd.R_slice HO_6.out
       subst eo38
       try go_wp2
       have n0_ := Aside0.mk (Kd.R_drew HO_6.out)
       have n1_ := Aside0.mk (blk_drew BK604.out)
       have n2_ := Aside0.mk (blk_drew BK605.out)
       have n3_ := Aside0.mk (below_drew1 HB.out)
       clear HO_6
       clear BK604
       clear BK605
       clear HB
       have HO_6 := n0_
       have BK604 := n1_
       have BK605 := n2_
       have HB := n3_
       clear n0_ n1_ n2_ n3_
       have p612 : 0 ≤ (x9_1 : Int) := of_decide_eq_true q4_
       have q612 : x9_1 < (t606.length : Int) := of_decide_eq_true q4_
       obtain ⟨ad612, e612, hx612_0, hx612_1, hx612_2⟩ := at_T35 (Kd.R_reads' HO_6.out).2.2 x9_1 p612 q612
       cases e612
       replace p612 := eq_true p612
       replace q612 := eq_true q612
       refine start_ (n := 7) (S := fun w' => w'.cell? ⟨gb605, 0, none⟩ = some (.int .i64 a1_0) ∧ w'.cell? ⟨gb605, 1, none⟩ = some (.int .i64 a1_1) ∧ w'.cell? ⟨gb605, 2, none⟩ = some (.int .i64 a1_2) ∧ w'.cell? (ad612.add ((x9_1).toNat * 3)) = some (.int .i64 ((rd_T35 t606 x9_1).f0)) ∧ w'.cell? ⟨(ad612.add ((x9_1).toNat * 3)).block, (ad612.add ((x9_1).toNat * 3)).off + 1, none⟩ = some (.int .i64 ((rd_T35 t606 x9_1).f1)) ∧ w'.cell? ⟨(ad612.add ((x9_1).toNat * 3)).block, (ad612.add ((x9_1).toNat * 3)).off + 2, none⟩ = some (.int .i64 ((rd_T35 t606 x9_1).f2))) (ds := []) (bl_ 7 0) q8_ rfl rfl ⟨(blk_cell BK605.out 0).trans rfl, (blk_cell BK605.out 1).trans rfl, (blk_cell BK605.out 2).trans rfl, hx612_0, hx612_1, hx612_2⟩ (fun hHeld => ?_)
       generalize wr.drew = w39 at HO_6 BK604 BK605 HB hx612_0 hx612_1 hx612_2 hHeld ⊢
       refine pure_ (i := 1) (N := some 49) (v := ?_) (a' := ?_) (bl_ 7 2) rfl rfl q8_ (fun _ _ _ h => h) (Or.inl ⟨by rfl, ?_⟩) ?_ ?_
       rotate_left
       ·intro w'
        go_simp
        with_reducible rfl
       rotate_left
       ·simp only [Act.put, List.setIfInBounds_toArray, List.set_cons_zero, List.set_cons_succ, i64_w, i32_w]
        rfl
       refine pure_ (i := 2) (N := some 50) (v := ?_) (a' := ?_) (bl_ 7 6) rfl rfl q8_ (fun _ _ _ h => h) (Or.inl ⟨by rfl, ?_⟩) ?_ ?_
       rotate_left
       ·intro w'
        go_simp
        with_reducible rfl
       rotate_left
       ·simp only [Act.put, List.setIfInBounds_toArray, List.set_cons_zero, List.set_cons_succ, i64_w, i32_w]
        rfl
       refine pure_ (i := 3) (N := some 51) (v := ?_) (a' := ?_) (bl_ 7 14) rfl rfl q8_ (fun _ _ _ h => h) (Or.inl ⟨by rfl, ?_⟩) ?_ ?_
       rotate_left
       ·intro w'
        go_simp
        with_reducible rfl
       rotate_left
       ·simp only [Act.put, List.setIfInBounds_toArray, List.set_cons_zero, List.set_cons_succ, i64_w, i32_w]
        rfl
       refine take_ (i := 0) (N := some 48) (v := ?_) (a' := ?_) (bl_ 7 15) rfl rfl q8_ (fun _ _ _ h => h) (Or.inl ⟨by rfl, ?_⟩) hHeld ?_ ?_
       rotate_left
       ·rintro w' ⟨s0, s1, s2, s3, s4, s5⟩
        go_simp
        with_reducible rfl
       rotate_left
       ·simp only [Act.put, List.setIfInBounds_toArray, List.set_cons_zero, List.set_cons_succ, i64_w, i32_w]
        rfl
       refine take_ (i := 4) (N := some 52) (v := ?_) (a' := ?_) (bl_ 7 31) rfl rfl q8_ (fun _ _ _ h => h) (Or.inl ⟨by rfl, ?_⟩) hHeld ?_ ?_
       rotate_left
       ·rintro w' ⟨s0, s1, s2, s3, s4, s5⟩
        go_simp
        with_reducible rfl
       rotate_left
       ·simp only [Act.put, List.setIfInBounds_toArray, List.set_cons_zero, List.set_cons_succ, i64_w, i32_w]
        rfl
       refine one_ (i := 5) (N := some 53) (bl_ 7 63) rfl rfl q8_ q210_ (fun K hK => ?_)
       refine goes_ Try.func17 q8_ rfl #[.agg #[.int .i64 a1_0, .int .i64 a1_1, .int .i64 a1_2], .agg #[.int .i64 ((rd_T35 t606 x9_1).f0), .int .i64 ((rd_T35 t606 x9_1).f1), .int .i64 ((rd_T35 t606 x9_1).f2)]] (by rfl) rfl rfl q1_ ?_
       with_reducible refine (cambiumref05_Less.calls a1_0 a1_1 a1_2 ((rd_T35 t606 x9_1).f0) ((rd_T35 t606 x9_1).f1) ((rd_T35 t606 x9_1).f2) false _ A33.out).mono ?_
       rintro e w40 ⟨rfl, hb⟩
       have HS3_ := (hb.cell (World.block_lt_of_cell? _ _ (hHeld.2.2.2.1))).trans (hHeld.2.2.2.1)
       have HS4_ := (hb.cell (World.block_lt_of_cell? _ _ (hHeld.2.2.2.2.1))).trans (hHeld.2.2.2.2.1)
       have HS5_ := (hb.cell (World.block_lt_of_cell? _ _ (hHeld.2.2.2.2.2))).trans (hHeld.2.2.2.2.2)
       refine ⟨_, rfl, ?_⟩
       have n0_ := Aside0.mk (Kd.R_below q155_ hb)
       have n1_ := Aside0.mk (blk_below (g := gb604) (o := .cells #[.int .i64 a0_0, .slice A0_1 l0_1.length c0_1, .slice A0_2 l0_2.length c0_2] 25 (0, 0)) q62_ hb)
       have n2_ := Aside0.mk (blk_below (g := gb605) (o := .cells #[.int .i64 a1_0, .int .i64 a1_1, .int .i64 a1_2] 35 (0, 0)) q84_ hb)
       have n3_ := Aside0.mk (below_step q46_ hb)
       clear HO_6
       clear BK604
       clear BK605
       clear HB
       have HO_6 := n0_
       have BK604 := n1_
       have BK605 := n2_
       have HB := n3_
       clear n0_ n1_ n2_ n3_
       (try clear hb)
       (try clear hb2)
       (try clear hk)
       (try clear hi)
       refine hK.out _ _ ⟨(blk_cell BK605.out 0).trans rfl, (blk_cell BK605.out 1).trans rfl, (blk_cell BK605.out 2).trans rfl, HS3_, HS4_, HS5_⟩ (fun hHeld => ?_)
       clear hK K
       refine norm_ (a' := ?_) ?_ ?_
       rotate_left
       ·show Act.put _ (some 53) _ = _
        simp only [Act.put, List.setIfInBounds_toArray, List.set_cons_zero, List.set_cons_succ, i64_w, i32_w]
        rfl
       refine pure_ (i := 6) (N := some 54) (v := ?_) (a' := ?_) (bl_ 7 127) rfl rfl q8_ (fun _ _ _ h => h) (Or.inl ⟨by rfl, ?_⟩) ?_ ?_
       rotate_left
       ·intro w'
        go_simp
        with_reducible rfl
       rotate_left
       ·simp only [Act.put, List.setIfInBounds_toArray, List.set_cons_zero, List.set_cons_succ, i64_w, i32_w]
        rfl
       refine done_ q8_ ?_
       try go_wp2
       go_roundg k1
       case measure => have := HK1.out; omega
       case rel => exact ⟨(x9_1), (wrap64 (x9_1 + 1)), q14_, q14_, H', ⟨by have := HK1.out; omega⟩, ⟨q155_⟩, ⟨q62_⟩, ⟨q84_⟩, ⟨q46_⟩⟩
     ·rw [if_neg c32] at H
      exact absurd H (by simp)
    ·rw [if_neg c31] at H
     have c31b0 : decide (x9_1 < (t606.length : Int)) = false := decide_eq_false c31
     clear c31
     by_cases c41 : x8_1 < (t606.length : Int)
     ·rw [if_pos c41] at H
      have c41b0 : decide (x8_1 < (t606.length : Int)) = true := decide_eq_true c41
      clear c41
      by_cases c42 : 0 ≤ x8_1
      ·rw [if_pos c42] at H
       have c42b0 : decide (0 ≤ x8_1) = true := decide_eq_true c42
       clear c42
       simp only [Option.some.injEq, Prod.mk.injEq] at H
       obtain ⟨rfl, rfl⟩ := H
       obtain ⟨Ao43, co43, eo43⟩ := Kd.R_slice HO_6.out
       subst eo43
       try go_wp2
       have n0_ := Aside0.mk (Kd.R_drew HO_6.out)
       have n1_ := Aside0.mk (blk_drew BK604.out)
       have n2_ := Aside0.mk (blk_drew BK605.out)
       have n3_ := Aside0.mk (below_drew1 HB.out)
       clear HO_6
       clear BK604
       clear BK605
       clear HB
       have HO_6 := n0_
       have BK604 := n1_
       have BK605 := n2_
       have HB := n3_
       clear n0_ n1_ n2_ n3_
       have p614 : 0 ≤ (x8_1 : Int) := of_decide_eq_true q4_
       have q614 : x8_1 < (t606.length : Int) := of_decide_eq_true q4_
       obtain ⟨ad614, e614, hx614_0, hx614_1, hx614_2⟩ := at_T35 (Kd.R_reads' HO_6.out).2.2 x8_1 p614 q614
       cases e614
       replace p614 := eq_true p614
       replace q614 := eq_true q614
       refine start_ (n := 15) (S := fun w' => w'.cell? ⟨gb605, 0, none⟩ = some (.int .i64 a1_0) ∧ w'.cell? ⟨gb605, 1, none⟩ = some (.int .i64 a1_1) ∧ w'.cell? ⟨gb605, 2, none⟩ = some (.int .i64 a1_2) ∧ w'.cell? (ad614.add ((x8_1).toNat * 3)) = some (.int .i64 ((rd_T35 t606 x8_1).f0)) ∧ w'.cell? ⟨(ad614.add ((x8_1).toNat * 3)).block, (ad614.add ((x8_1).toNat * 3)).off + 1, none⟩ = some (.int .i64 ((rd_T35 t606 x8_1).f1)) ∧ w'.cell? ⟨(ad614.add ((x8_1).toNat * 3)).block, (ad614.add ((x8_1).toNat * 3)).off + 2, none⟩ = some (.int .i64 ((rd_T35 t606 x8_1).f2))) (ds := []) (bl_ 15 0) q8_ rfl rfl ⟨(blk_cell BK605.out 0).trans rfl, (blk_cell BK605.out 1).trans rfl, (blk_cell BK605.out 2).trans rfl, hx614_0, hx614_1, hx614_2⟩ (fun hHeld => ?_); refine with_tabW cambiumref06_Seek.tab13 cambiumref06_Seek.bits13 (fun HT_ HW_ => ?_)
       generalize wr.drew = w44 at HO_6 BK604 BK605 HB hx614_0 hx614_1 hx614_2 hHeld ⊢
       refine pure_ (i := 0) (N := some 56) (v := ?_) (a' := ?_) (bl_ 15 1) rfl rfl (any_of HT_.out q8_) (fun _ _ _ h => h) (Or.inl ⟨by rfl, ?_⟩) ?_ ?_
       rotate_left
       ·intro w'
        go_simp
        with_reducible rfl
       rotate_left
       ·simp only [Act.put, List.setIfInBounds_toArray, List.set_cons_zero, List.set_cons_succ, i64_w, i32_w]
        rfl
       refine pure_ (i := 1) (N := some 57) (v := ?_) (a' := ?_) (bl_ 15 3) rfl rfl (any_of HT_.out q8_) (fun _ _ _ h => h) (Or.inl ⟨by rfl, ?_⟩) ?_ ?_
       rotate_left
       ·intro w'
        go_simp
        with_reducible rfl
       rotate_left
       ·simp only [Act.put, List.setIfInBounds_toArray, List.set_cons_zero, List.set_cons_succ, i64_w, i32_w]
        rfl
       refine pure_ (i := 2) (N := some 58) (v := ?_) (a' := ?_) (bl_ 15 7) rfl rfl (any_of HT_.out q8_) (fun _ _ _ h => h) (Or.inl ⟨by rfl, ?_⟩) ?_ ?_
       rotate_left
       ·intro w'
        go_simp
        with_reducible rfl
       rotate_left
       ·simp only [Act.put, List.setIfInBounds_toArray, List.set_cons_zero, List.set_cons_succ, i64_w, i32_w]
        rfl
       refine pure_ (i := 3) (N := some 59) (v := ?_) (a' := ?_) (bl_ 15 15) rfl rfl (any_of HT_.out q8_) (fun _ _ _ h => h) (Or.inl ⟨by rfl, ?_⟩) ?_ ?_
       rotate_left
       ·intro w'
        go_simp
        with_reducible rfl
       rotate_left
       ·simp only [Act.put, List.setIfInBounds_toArray, List.set_cons_zero, List.set_cons_succ, i64_w, i32_w]
        rfl
       refine pure_ (i := 4) (N := some 60) (v := ?_) (a' := ?_) (bl_ 15 31) rfl rfl (any_of HT_.out q8_) (fun _ _ _ h => h) (Or.inl ⟨by rfl, ?_⟩) ?_ ?_
       rotate_left
       ·intro w'
        go_simp
        with_reducible rfl
       rotate_left
       ·simp only [Act.put, List.setIfInBounds_toArray, List.set_cons_zero, List.set_cons_succ, i64_w, i32_w]
        rfl
       refine pure_ (i := 5) (N := some 61) (v := ?_) (a' := ?_) (bl_ 15 63) rfl rfl (any_of HT_.out q8_) (fun _ _ _ h => h) (Or.inl ⟨by rfl, ?_⟩) ?_ ?_
       rotate_left
       ·intro w'
        go_simp
        with_reducible rfl
       rotate_left
       ·simp only [Act.put, List.setIfInBounds_toArray, List.set_cons_zero, List.set_cons_succ, i64_w, i32_w]
        rfl
       refine pure_ (i := 6) (N := some 62) (v := ?_) (a' := ?_) (bl_ 15 127) rfl rfl (any_of HT_.out q8_) (fun _ _ _ h => h) (Or.inl ⟨by rfl, ?_⟩) ?_ ?_
       rotate_left
       ·intro w'
        go_simp
        with_reducible rfl
       rotate_left
       ·simp only [Act.put, List.setIfInBounds_toArray, List.set_cons_zero, List.set_cons_succ, i64_w, i32_w]
        rfl
       refine pure_ (i := 7) (N := some 63) (v := ?_) (a' := ?_) (bl_ 15 255) rfl rfl (any_of HT_.out q8_) (fun _ _ _ h => h) (Or.inl ⟨by rfl, ?_⟩) ?_ ?_
       rotate_left
       ·intro w'
        go_simp
        with_reducible rfl
       rotate_left
       ·simp only [Act.put, List.setIfInBounds_toArray, List.set_cons_zero, List.set_cons_succ, i64_w, i32_w]
        rfl
       refine pure_ (i := 8) (N := some 64) (v := ?_) (a' := ?_) (bl_ 15 511) rfl rfl (any_of HT_.out q8_) (fun _ _ _ h => h) (Or.inl ⟨by rfl, ?_⟩) ?_ ?_
       rotate_left
       ·intro w'
        go_simp
        with_reducible rfl
       rotate_left
       ·simp only [Act.put, List.setIfInBounds_toArray, List.set_cons_zero, List.set_cons_succ, i64_w, i32_w]
        rfl
       refine pure_ (i := 13) (N := some 4) (v := ?_) (a' := ?_) (bl_ 15 8703) rfl rfl (any_of HT_.out q8_) (fun _ _ _ h => h) (Or.inl ⟨by rfl, ?_⟩) ?_ ?_
       rotate_left
       ·intro w'
        go_simp
        with_reducible rfl
       rotate_left
       ·simp only [Act.put, List.setIfInBounds_toArray, List.set_cons_zero, List.set_cons_succ, i64_w, i32_w]
        rfl
       refine take_ (i := 9) (N := some 65) (v := ?_) (a' := ?_) (bl_ 15 9215) rfl rfl (take_ofW HT_.out HW_.out q8_) (fun _ _ _ h => h) (Or.inl ⟨by rfl, ?_⟩) hHeld ?_ ?_
       rotate_left
       ·rintro w' ⟨s0, s1, s2, s3, s4, s5⟩
        go_simp
        with_reducible rfl
       rotate_left
       ·simp only [Act.put, List.setIfInBounds_toArray, List.set_cons_zero, List.set_cons_succ, i64_w, i32_w]
        rfl
       refine take_ (i := 10) (N := some 66) (v := ?_) (a' := ?_) (bl_ 15 10239) rfl rfl (take_ofW HT_.out HW_.out q8_) (fun _ _ _ h => h) (Or.inl ⟨by rfl, ?_⟩) hHeld ?_ ?_
       rotate_left
       ·rintro w' ⟨s0, s1, s2, s3, s4, s5⟩
        go_simp
        with_reducible rfl
       rotate_left
       ·simp only [Act.put, List.setIfInBounds_toArray, List.set_cons_zero, List.set_cons_succ, i64_w, i32_w]
        rfl
       refine pure_ (i := 11) (N := some 67) (v := ?_) (a' := ?_) (bl_ 15 12287) rfl rfl (any_of HT_.out q8_) (fun _ _ _ h => h) (Or.inl ⟨by rfl, ?_⟩) ?_ ?_
       rotate_left
       ·intro w'
        go_simp
        with_reducible rfl
       rotate_left
       ·simp only [Act.put, List.setIfInBounds_toArray, List.set_cons_zero, List.set_cons_succ, i64_w, i32_w]
        rfl
       refine pure_ (i := 12) (N := some 68) (v := ?_) (a' := ?_) (bl_ 15 16383) rfl rfl (any_of HT_.out q8_) (fun _ _ _ h => h) (Or.inl ⟨by rfl, ?_⟩) ?_ ?_
       rotate_left
       ·intro w'
        go_simp
        with_reducible rfl
       rotate_left
       ·simp only [Act.put, List.setIfInBounds_toArray, List.set_cons_zero, List.set_cons_succ, i64_w, i32_w]
        rfl
       refine pure_ (i := 14) (N := some 5) (v := ?_) (a' := ?_) (bl_ 15 32767) rfl rfl (any_of HT_.out q8_) (fun _ _ _ h => h) (Or.inl ⟨by rfl, ?_⟩) ?_ ?_
       rotate_left
       ·intro w'
        go_simp
        with_reducible rfl
       rotate_left
       ·simp only [Act.put, List.setIfInBounds_toArray, List.set_cons_zero, List.set_cons_succ, i64_w, i32_w]
        rfl
       refine done_ (done_of HT_.out q8_) ?_
       try go_wp2
       go_ret2
       exact ⟨q6_, by repeat (first | (with_reducible first | exact HB.out | apply below_alloc | apply pw_below_drewN | apply below_drew1 | refine below_set ?_ GE604.out | refine below_set ?_ GE605.out) | exact HB.out)⟩
      ·rw [if_neg c42] at H
       exact absurd H (by simp)
     ·rw [if_neg c41] at H
      have c41b0 : decide (x8_1 < (t606.length : Int)) = false := decide_eq_false c41
      clear c41
      simp only [Option.some.injEq, Prod.mk.injEq] at H
      obtain ⟨rfl, rfl⟩ := H
      obtain ⟨Ao45, co45, eo45⟩ := Kd.R_slice HO_6.out
      subst eo45
      try go_wp2
      have n0_ := Aside0.mk (Kd.R_drew HO_6.out)
      have n1_ := Aside0.mk (blk_drew BK604.out)
      have n2_ := Aside0.mk (blk_drew BK605.out)
      have n3_ := Aside0.mk (below_drew1 HB.out)
      clear HO_6
      clear BK604
      clear BK605
      clear HB
      have HO_6 := n0_
      have BK604 := n1_
      have BK605 := n2_
      have HB := n3_
      clear n0_ n1_ n2_ n3_
      refine start_ (n := 15) (S := fun w' => True) (ds := []) (bl_ 15 0) q8_ rfl rfl trivial (fun hHeld => ?_); refine with_tabW cambiumref06_Seek.tab13 cambiumref06_Seek.bits13 (fun HT_ HW_ => ?_)
      generalize wr.drew = w46 at HO_6 BK604 BK605 HB hHeld ⊢
      refine pure_ (i := 0) (N := some 56) (v := ?_) (a' := ?_) (bl_ 15 1) rfl rfl (any_of HT_.out q8_) (fun _ _ _ h => h) (Or.inl ⟨by rfl, ?_⟩) ?_ ?_
      rotate_left
      ·intro w'
       go_simp
       with_reducible rfl
      rotate_left
      ·simp only [Act.put, List.setIfInBounds_toArray, List.set_cons_zero, List.set_cons_succ, i64_w, i32_w]
       rfl
      refine pure_ (i := 1) (N := some 57) (v := ?_) (a' := ?_) (bl_ 15 3) rfl rfl (any_of HT_.out q8_) (fun _ _ _ h => h) (Or.inl ⟨by rfl, ?_⟩) ?_ ?_
      rotate_left
      ·intro w'
       go_simp
       with_reducible rfl
      rotate_left
      ·simp only [Act.put, List.setIfInBounds_toArray, List.set_cons_zero, List.set_cons_succ, i64_w, i32_w]
       rfl
      refine pure_ (i := 2) (N := some 58) (v := ?_) (a' := ?_) (bl_ 15 7) rfl rfl (any_of HT_.out q8_) (fun _ _ _ h => h) (Or.inl ⟨by rfl, ?_⟩) ?_ ?_
      rotate_left
      ·intro w'
       go_simp
       with_reducible rfl
      rotate_left
      ·simp only [Act.put, List.setIfInBounds_toArray, List.set_cons_zero, List.set_cons_succ, i64_w, i32_w]
       rfl
      refine pure_ (i := 3) (N := some 59) (v := ?_) (a' := ?_) (bl_ 15 15) rfl rfl (any_of HT_.out q8_) (fun _ _ _ h => h) (Or.inl ⟨by rfl, ?_⟩) ?_ ?_
      rotate_left
      ·intro w'
       go_simp
       with_reducible rfl
      rotate_left
      ·simp only [Act.put, List.setIfInBounds_toArray, List.set_cons_zero, List.set_cons_succ, i64_w, i32_w]
       rfl
      refine pure_ (i := 4) (N := some 60) (v := ?_) (a' := ?_) (bl_ 15 31) rfl rfl (any_of HT_.out q8_) (fun _ _ _ h => h) (Or.inl ⟨by rfl, ?_⟩) ?_ ?_
      rotate_left
      ·intro w'
       go_simp
       with_reducible rfl
      rotate_left
      ·simp only [Act.put, List.setIfInBounds_toArray, List.set_cons_zero, List.set_cons_succ, i64_w, i32_w]
       rfl
      refine pure_ (i := 5) (N := some 61) (v := ?_) (a' := ?_) (bl_ 15 63) rfl rfl (any_of HT_.out q8_) (fun _ _ _ h => h) (Or.inl ⟨by rfl, ?_⟩) ?_ ?_
      rotate_left
      ·intro w'
       go_simp
       with_reducible rfl
      rotate_left
      ·simp only [Act.put, List.setIfInBounds_toArray, List.set_cons_zero, List.set_cons_succ, i64_w, i32_w]
       rfl
      refine pure_ (i := 6) (N := some 62) (v := undef) (a' := ?_) (bl_ 15 127) rfl rfl (any_of HT_.out q8_) (fun _ _ _ h => h) (Or.inr ⟨by rfl, rfl⟩) ?_ ?_
      rotate_left
      ·simp only [Act.put, List.setIfInBounds_toArray, List.set_cons_zero, List.set_cons_succ, i64_w, i32_w]
       rfl
      refine pure_ (i := 7) (N := some 63) (v := undef) (a' := ?_) (bl_ 15 255) rfl rfl (any_of HT_.out q8_) (fun _ _ _ h => h) (Or.inr ⟨by rfl, rfl⟩) ?_ ?_
      rotate_left
      ·simp only [Act.put, List.setIfInBounds_toArray, List.set_cons_zero, List.set_cons_succ, i64_w, i32_w]
       rfl
      refine pure_ (i := 8) (N := some 64) (v := undef) (a' := ?_) (bl_ 15 511) rfl rfl (any_of HT_.out q8_) (fun _ _ _ h => h) (Or.inr ⟨by rfl, rfl⟩) ?_ ?_
      rotate_left
      ·simp only [Act.put, List.setIfInBounds_toArray, List.set_cons_zero, List.set_cons_succ, i64_w, i32_w]
       rfl
      refine pure_ (i := 9) (N := some 65) (v := undef) (a' := ?_) (bl_ 15 1023) rfl rfl (any_of HT_.out q8_) (fun _ _ _ h => h) (Or.inr ⟨by rfl, rfl⟩) ?_ ?_
      rotate_left
      ·simp only [Act.put, List.setIfInBounds_toArray, List.set_cons_zero, List.set_cons_succ, i64_w, i32_w]
       rfl
      refine pure_ (i := 10) (N := some 66) (v := undef) (a' := ?_) (bl_ 15 2047) rfl rfl (any_of HT_.out q8_) (fun _ _ _ h => h) (Or.inr ⟨by rfl, rfl⟩) ?_ ?_
      rotate_left
      ·simp only [Act.put, List.setIfInBounds_toArray, List.set_cons_zero, List.set_cons_succ, i64_w, i32_w]
       rfl
      refine pure_ (i := 11) (N := some 67) (v := undef) (a' := ?_) (bl_ 15 4095) rfl rfl (any_of HT_.out q8_) (fun _ _ _ h => h) (Or.inr ⟨by rfl, rfl⟩) ?_ ?_
      rotate_left
      ·simp only [Act.put, List.setIfInBounds_toArray, List.set_cons_zero, List.set_cons_succ, i64_w, i32_w]
       rfl
      refine pure_ (i := 12) (N := some 68) (v := ?_) (a' := ?_) (bl_ 15 8191) rfl rfl (any_of HT_.out q8_) (fun _ _ _ h => h) (Or.inl ⟨by rfl, ?_⟩) ?_ ?_
      rotate_left
      ·intro w'
       go_simp
       with_reducible rfl
      rotate_left
      ·simp only [Act.put, List.setIfInBounds_toArray, List.set_cons_zero, List.set_cons_succ, i64_w, i32_w]
       rfl
      refine pure_ (i := 13) (N := some 4) (v := ?_) (a' := ?_) (bl_ 15 16383) rfl rfl (any_of HT_.out q8_) (fun _ _ _ h => h) (Or.inl ⟨by rfl, ?_⟩) ?_ ?_
      rotate_left
      ·intro w'
       go_simp
       with_reducible rfl
      rotate_left
      ·simp only [Act.put, List.setIfInBounds_toArray, List.set_cons_zero, List.set_cons_succ, i64_w, i32_w]
       rfl
      refine pure_ (i := 14) (N := some 5) (v := ?_) (a' := ?_) (bl_ 15 32767) rfl rfl (any_of HT_.out q8_) (fun _ _ _ h => h) (Or.inl ⟨by rfl, ?_⟩) ?_ ?_
      rotate_left
      ·intro w'
       go_simp
       with_reducible rfl
      rotate_left
      ·simp only [Act.put, List.setIfInBounds_toArray, List.set_cons_zero, List.set_cons_succ, i64_w, i32_w]
       rfl
      refine done_ (done_of HT_.out q8_) ?_
      try go_wp2
      go_ret2
      exact ⟨q6_, by repeat (first | (with_reducible first | exact HB.out | apply below_alloc | apply pw_below_drewN | apply below_drew1 | refine below_set ?_ GE604.out | refine below_set ?_ GE605.out) | exact HB.out)⟩

end Go.Proofs.Ytcjnknpbikfimaa.P
