/- Functions and contracts, written by a program (mkprint.py, a wrapper of ours around the print); texts between GIVEN marks are ours. -/
import Derived.Test.YtcjnknpbikfimaaPx0
import Derived.Test.YtcjnknpbikfimaaPx16
import Derived.Test.YtcjnknpbikfimaaPx18
import Derived.Test.YtcjnknpbikfimaaPx19
import Derived.Test.YtcjnknpbikfimaaPx21
namespace Go.Proofs.Ytcjnknpbikfimaa.P
open Go.RowKit Go.Proofs.YtcjnknpbikfimaaW.PrintWords Go.Proofs.YtcjnknpbikfimaaW.PrintLast Go.Proofs.YtcjnknpbikfimaaW.PrintMore
attribute [local go_sem] max2_int min2_int max_two min_two max_three min_three max_four min_four   -- for this text's walks alone
set_option linter.unusedVariables false
set_option linter.unusedSimpArgs false

/-! ### cambiumref06_Write: function 14 -/
mutual
def cambiumref06_Write.l0 : Nat → Int → Int → List Int → Int → Int → List (S52) → List (S57) → Option (List Int × Int)
 | 0, _, _, _, _, _, _, _ => none
 | k + 1, x1, x2, x9, x10, x289000, x289001, x289002 => if x10 < (x289001.length : Int) then (if 0 ≤ x10 then ((cambiumref05_Put.f k x9 ((rd_T52 x289001 x10).f0.f0) ((rd_T52 x289001 x10).f0.f1) ((rd_T52 x289001 x10).f0.f2)).bind fun t294 => ((cambiumref01_Put.f k t294 (((rd_T52 x289001 x10).f1).length : Int) 1).bind fun t298 => (if t298.length + ((rd_T52 x289001 x10).f1).length < 140737488355328 then (cambiumref06_Write.l0 k x1 x2 (t298 ++ ((rd_T52 x289001 x10).f1)) (wrap64 (x10 + 1)) x289000 x289001 x289002) else (none)))) else (none)) else (cambiumref06_Write.l1 k x1 x2 x9 0 x289000 x289001 x289002)
def cambiumref06_Write.l1 : Nat → Int → Int → List Int → Int → Int → List (S52) → List (S57) → Option (List Int × Int)
 | 0, _, _, _, _, _, _, _ => none
 | k + 1, x1, x2, x9, x11, x289000, x289001, x289002 => if x11 < (x289002.length : Int) then (if 0 ≤ x11 then ((cambiumref05_Put.f k x9 ((rd_T57 x289002 x11).f0.f0) ((rd_T57 x289002 x11).f0.f1) ((rd_T57 x289002 x11).f0.f2)).bind fun t306 => ((cambiumref01_Put.f k t306 ((rd_T57 x289002 x11).f1) 2).bind fun t310 => (cambiumref06_Write.l1 k x1 x2 t310 (wrap64 (x11 + 1)) x289000 x289001 x289002))) else (none)) else (if x289000 > 0 then ((cambiumref04_Seal.f k 4 x1 (wrap64 ((x289001.length : Int) + (x289002.length : Int))) x289000 x2 x9).bind fun bt314 => (some (bt314.1, bt314.2))) else ((cambiumref04_Seal.f k 3 x1 (wrap64 ((x289001.length : Int) + (x289002.length : Int))) x289000 x2 x9).bind fun bt318 => (some (bt318.1, bt318.2))))
end
def cambiumref06_Write.f (k : Nat) (a0_0 : Int) (l0_1 : List (S52)) (l0_2 : List (S57)) (a1 : Int) (a2 : Int) : Option (List Int × Int) := (cambiumref06_May.f k a0_0 l0_1 l0_2).bind fun t289 => (if t289 = true then (cambiumref06_Write.l0 k a1 a2 (([] : List Int)) 0 a0_0 l0_1 l0_2) else (some (([] : List Int), 1)))
theorem cambiumref06_Write.mono_l : ∀ k, (∀ y0 y1 y2 y3 y4 y5 y6, LeO (cambiumref06_Write.l0 k y0 y1 y2 y3 y4 y5 y6) (cambiumref06_Write.l0 (k + 1) y0 y1 y2 y3 y4 y5 y6)) ∧ (∀ y0 y1 y2 y3 y4 y5 y6, LeO (cambiumref06_Write.l1 k y0 y1 y2 y3 y4 y5 y6) (cambiumref06_Write.l1 (k + 1) y0 y1 y2 y3 y4 y5 y6))
 | 0 => ⟨fun _ _ _ _ _ _ _ r h => by simp [cambiumref06_Write.l0] at h, fun _ _ _ _ _ _ _ r h => by simp [cambiumref06_Write.l1] at h⟩
 | k + 1 => by
  obtain ⟨ih0, ih1⟩ := cambiumref06_Write.mono_l k
  refine ⟨?_, ?_⟩
  ·intro y0 y1 y2 y3 y4 y5 y6
   unfold cambiumref06_Write.l0
   repeat' first
   | (with_reducible exact ih0 _ _ _ _ _ _ _)
   | (with_reducible exact ih1 _ _ _ _ _ _ _)
   | (with_reducible exact cambiumref01_Put.mono _ _ _ _)
   | (with_reducible exact cambiumref04_Seal.mono _ _ _ _ _ _ _)
   | (with_reducible exact cambiumref05_Put.mono _ _ _ _ _)
   | (with_reducible exact cambiumref06_May.mono _ _ _ _)
   | (with_reducible exact LeO.refl _)
   | (with_reducible exact LeO.none _)
   | (with_reducible refine LeO.ite ?_ ?_)
   | (with_reducible refine LeO.bind ?_ (fun _ => ?_))
   | exact ih0 _ _ _ _ _ _ _
   | exact ih1 _ _ _ _ _ _ _
   | exact cambiumref01_Put.mono _ _ _ _
   | exact cambiumref04_Seal.mono _ _ _ _ _ _ _
   | exact cambiumref05_Put.mono _ _ _ _ _
   | exact cambiumref06_May.mono _ _ _ _
   | exact LeO.none _
   | refine LeO.ite ?_ ?_
   | refine LeO.bind ?_ (fun _ => ?_)
  ·intro y0 y1 y2 y3 y4 y5 y6
   unfold cambiumref06_Write.l1
   repeat' first
   | (with_reducible exact ih0 _ _ _ _ _ _ _)
   | (with_reducible exact ih1 _ _ _ _ _ _ _)
   | (with_reducible exact cambiumref01_Put.mono _ _ _ _)
   | (with_reducible exact cambiumref04_Seal.mono _ _ _ _ _ _ _)
   | (with_reducible exact cambiumref05_Put.mono _ _ _ _ _)
   | (with_reducible exact cambiumref06_May.mono _ _ _ _)
   | (with_reducible exact LeO.refl _)
   | (with_reducible exact LeO.none _)
   | (with_reducible refine LeO.ite ?_ ?_)
   | (with_reducible refine LeO.bind ?_ (fun _ => ?_))
   | exact ih0 _ _ _ _ _ _ _
   | exact ih1 _ _ _ _ _ _ _
   | exact cambiumref01_Put.mono _ _ _ _
   | exact cambiumref04_Seal.mono _ _ _ _ _ _ _
   | exact cambiumref05_Put.mono _ _ _ _ _
   | exact cambiumref06_May.mono _ _ _ _
   | exact LeO.none _
   | refine LeO.ite ?_ ?_
   | refine LeO.bind ?_ (fun _ => ?_)
theorem cambiumref06_Write.mono : ∀ a0 a1 a2 a3 a4 k, LeO (cambiumref06_Write.f k a0 a1 a2 a3 a4) (cambiumref06_Write.f (k + 1) a0 a1 a2 a3 a4) := by
 intro a0 a1 a2 a3 a4 k
 obtain ⟨ih0, ih1⟩ := cambiumref06_Write.mono_l k
 unfold cambiumref06_Write.f
 repeat' first
   | (with_reducible exact ih0 _ _ _ _ _ _ _)
   | (with_reducible exact ih1 _ _ _ _ _ _ _)
   | (with_reducible exact cambiumref01_Put.mono _ _ _ _)
   | (with_reducible exact cambiumref04_Seal.mono _ _ _ _ _ _ _)
   | (with_reducible exact cambiumref05_Put.mono _ _ _ _ _)
   | (with_reducible exact cambiumref06_May.mono _ _ _ _)
   | (with_reducible exact LeO.refl _)
   | (with_reducible exact LeO.none _)
   | (with_reducible refine LeO.ite ?_ ?_)
   | (with_reducible refine LeO.bind ?_ (fun _ => ?_))
   | exact ih0 _ _ _ _ _ _ _
   | exact ih1 _ _ _ _ _ _ _
   | exact cambiumref01_Put.mono _ _ _ _
   | exact cambiumref04_Seal.mono _ _ _ _ _ _ _
   | exact cambiumref05_Put.mono _ _ _ _ _
   | exact cambiumref06_May.mono _ _ _ _
   | exact LeO.none _
   | refine LeO.ite ?_ ?_
   | refine LeO.bind ?_ (fun _ => ?_)
def cambiumref06_Write.T9 : Bool × List (List Nat × List Nat) := (true, [([], []), ([], []), ([1], [1]), ([], []), ([2, 3], [2, 3]), ([4], [4]), ([5], [5]), ([6], [6]), ([0, 7], [0, 7]), ([], []), ([9], [9]), ([], []), ([10, 11], [10, 11]), ([12], [12]), ([13], [13]), ([8, 14, 8], [8, 14]), ([15, 15, 0, 1, 2, 3, 4, 5, 6, 7, 8, 9, 10, 11, 12, 13, 14, 15], [0, 15])])
def cambiumref06_Write.B9 : List Nat := [0, 0, 2, 0, 14, 30, 62, 126, 255, 0, 512, 0, 3584, 7680, 15872, 32767, 65535]
theorem cambiumref06_Write.tab9 : rtab .any (opsOf Try.f14 9) = cambiumref06_Write.T9 := by kernel_rfl
theorem cambiumref06_Write.bits9 : waitsOk cambiumref06_Write.T9.2 cambiumref06_Write.B9 = true := by kernel_rfl
def cambiumref06_Write.T13 : Bool × List (List Nat × List Nat) := (true, [([], []), ([], []), ([1], [1]), ([], []), ([2, 3], [2, 3]), ([4], [4]), ([5], [5]), ([0, 6], [0, 6]), ([], []), ([8], [8]), ([], []), ([9, 10], [9, 10]), ([11], [11]), ([12], [12]), ([7, 13, 7], [7, 13]), ([14, 14, 0, 1, 2, 3, 4, 5, 6, 7, 8, 9, 10, 11, 12, 13, 14], [0, 14])])
def cambiumref06_Write.B13 : List Nat := [0, 0, 2, 0, 14, 30, 62, 127, 0, 256, 0, 1792, 3840, 7936, 16383, 32767]
theorem cambiumref06_Write.tab13 : rtab .any (opsOf Try.f14 13) = cambiumref06_Write.T13 := by kernel_rfl
theorem cambiumref06_Write.bits13 : waitsOk cambiumref06_Write.T13.2 cambiumref06_Write.B13 = true := by kernel_rfl
set_option maxHeartbeats 8000000 in
set_option maxRecDepth 100000 in
theorem cambiumref06_Write.calls (k : Nat) (a0_0 : Int) (A0_1 : Option Addr) (c0_1 : Nat) (l0_1 : List (S52)) (A0_2 : Option Addr) (c0_2 : Nat) (l0_2 : List (S57)) (a1 : Int) (a2 : Int) (r1 : List Int) (r2 : Int) (w : World) (hr0_1 : Kd.C k52 w A0_1 l0_1.length l0_1) (hc0_1 : l0_1.length ≤ c0_1) (hr0_2 : Kd.C k57 w A0_2 l0_2.length l0_2) (hc0_2 : l0_2.length ≤ c0_2) (h : cambiumref06_Write.f k a0_0 l0_1 l0_2 a1 a2 = some (r1, r2)) :
  Calls Try.prog 14 #[.agg #[.int .i64 a0_0, .slice A0_1 l0_1.length c0_1, .slice A0_2 l0_2.length c0_2], .int .i64 a1, .int .i64 a2] w fun e w' => ∃ v0_ : Value, e = .returned (.tuple #[v0_, .int .i64 r2]) ∧ Kd.R (Kd.int .u8) 5 w' w.heap.size (fun _ => True) v0_ r1 ∧ Below w.heap.size w w' := by
 have hu25 := Try.underlying25
 have hu35 := Try.underlying35
 have hu62 := Try.underlying62
 have HR0_1 := Aside0.mk hr0_1
 have HC0_1 := Aside0.mk hc0_1
 clear hr0_1 hc0_1
 have HR0_2 := Aside0.mk hr0_2
 have HC0_2 := Aside0.mk hc0_2
 clear hr0_2 hc0_2
 have HB := Aside0.mk (Below.refl w.heap.size w)
 have H : ((cambiumref06_May.f k a0_0 l0_1 l0_2).bind fun t289 => (if t289 = true then (cambiumref06_Write.l0 k a1 a2 (([] : List Int)) 0 a0_0 l0_1 l0_2) else (some (([] : List Int), 1)))) = some (r1, r2) := h
 clear h
 replace H := Option.bind_eq_some_iff.mp H
 obtain ⟨t289, A40, H⟩ := H
 replace H : (if t289 = true then (cambiumref06_Write.l0 k a1 a2 (([] : List Int)) 0 a0_0 l0_1 l0_2) else (some (([] : List Int), 1))) = some (r1, r2) := H
 have A4 := Aside0.mk A40
 clear A40
 by_cases c5 : t289 = true
 ·subst c5
  have H1 : (cambiumref06_Write.l0 k a1 a2 (([] : List Int)) 0 a0_0 l0_1 l0_2) = some (r1, r2) := by rw [if_pos rfl] at H; exact H
  clear H
  have H := H1
  clear H1
  obtain ⟨y290, hy290⟩ : ∃ y_ : List Int, y_ = (([] : List Int)) := ⟨_, rfl⟩
  replace H : (cambiumref06_Write.l0 k a1 a2 y290 0 a0_0 l0_1 l0_2) = some (r1, r2) := by first | (rw [hy290]; with_reducible exact H) | (have H2_ := (Option.bind_some _ _).symm.trans H; rw [hy290]; with_reducible exact H2_) | (have H2_ := (Option.bind_some _ _).symm.trans H; with_reducible exact H2_) | with_reducible exact H | (rw [hy290]; exact H) | exact H
  have Ny290 := Aside0.mk hy290
  clear hy290
  have H' := Aside0.mk H
  clear H
  go_enter Try.func14, Try.ntmps14
  go_wp2_with (first | ((with_reducible refine gate_dst (N := 3) rfl ?_); refine box_event ?hg (N := 3) ?hd (cs := #[.int .i64 a0_0, .slice A0_1 l0_1.length c0_1, .slice A0_2 l0_2.length c0_2]) (t := 25) ?hr ?_; (case hd => rfl); (case hg => rfl); (case hr => first | (go_simp; done) | (go_simp; rfl)); intro gb288 hg w6 hbox hb; have n0_ := Aside0.mk (below_step q0_ hb); have n1_ := Aside0.mk (hbox); have n2_ := Aside0.mk ((by rw [hg]; exact (below_size q0_) : w.heap.size ≤ gb288)); have n3_ := Aside0.mk ((by rw [hg]; exact (below_size q0_) : w.heap.size ≤ gb288)); clear HB; have HB := n0_; have BK288 := n1_; have GW288 := n2_; have GE288 := n3_; clear n0_ n1_ n2_ n3_; clear hb hbox hg; have hcz7_0 : w6.cell? ⟨gb288, 0, none⟩ = some (.int .i64 a0_0) := (blk_cell BK288.out 0).trans rfl; have hcz7_1 : w6.cell? ⟨gb288, 1, none⟩ = some (.slice A0_1 l0_1.length c0_1) := (blk_cell BK288.out 1).trans rfl; have hcz7_2 : w6.cell? ⟨gb288, 2, none⟩ = some (.slice A0_2 l0_2.length c0_2) := (blk_cell BK288.out 2).trans rfl; have hfz7_0 := blk_frozen BK288.out 0; have hfz7_1 := blk_frozen BK288.out 1; have hfz7_2 := blk_frozen BK288.out 2) | ((with_reducible refine gate_callee (f := 12) rfl ?_); refine goesL_ (some 14) rfl rfl Try.func12 q8_ rfl #[.agg #[.int .i64 a0_0, .slice A0_1 l0_1.length c0_1, .slice A0_2 l0_2.length c0_2]] rfl q1_ ?_; (with_reducible refine (cambiumref06_May.calls k a0_0 _ _ l0_1 _ _ l0_2 true _ ?side1 ?side2 ?side3 ?side4 A4.out).mono ?_); (case side1 => repeat (first | exact (Kd.C_below HR0_1.out HB.out) | (with_reducible refine Kd.C_alloc ?_ _) | (with_reducible refine Kd.C_drewN ?_ _) | (with_reducible refine Kd.C_drew ?_))); (case side2 => exact HC0_1.out); (case side3 => repeat (first | exact (Kd.C_below HR0_2.out HB.out) | (with_reducible refine Kd.C_alloc ?_ _) | (with_reducible refine Kd.C_drewN ?_ _) | (with_reducible refine Kd.C_drew ?_))); (case side4 => exact HC0_2.out); rintro e w8 ⟨rfl, hb⟩; refine ⟨_, rfl, ?_⟩; have n0_ := Aside0.mk (blk_below (g := gb288) (o := .cells #[.int .i64 a0_0, .slice A0_1 l0_1.length c0_1, .slice A0_2 l0_2.length c0_2] 25 (0, 0)) q58_ hb); have n1_ := Aside0.mk (below_step q21_ hb); clear BK288; clear HB; have BK288 := n0_; have HB := n1_; clear n0_ n1_; (try clear hb); (try clear hb2); (try clear hk); (try clear hi)) | ((with_reducible refine gate_dst (N := 17) rfl ?_); refine Kd.R_lit (Kd.int .u8) _ 5 ?hg (N := 17) ?hd (xs := ([] : List Int)) (inner := []) (ok := fun _ => True) (okp := fun _ => True) ?hr ?hp (fun _ hk => hk) trivial (Below.refl _ _) (Nat.le_refl _) (by simp) ?_; (case hd => rfl); (case hg => rfl); (case hr => first | (go_simp; done) | (go_simp; rfl)); (case hp => exact (Reps.none _ _)); intro v291 w9 ho10 hb hg_ hnew_; clear hg_ hnew_; (first | rw [← Ny290.out] at ho10 | (simp only [Int.reduceToNat] at ho10; rw [← Ny290.out] at ho10)); have n0_ := Aside0.mk (Kd.R_lower ho10 (below_size q21_)); have n1_ := Aside0.mk (blk_below (g := gb288) (o := .cells #[.int .i64 a0_0, .slice A0_1 l0_1.length c0_1, .slice A0_2 l0_2.length c0_2] 25 (0, 0)) q58_ hb); have n2_ := Aside0.mk (below_step q21_ hb); clear BK288; clear HB; have HO292 := n0_; have BK288 := n1_; have HB := n2_; clear n0_ n1_ n2_; clear hb ho10))
  go_loopg [9, 10] k (fun kq v9 v10 w' => ∃ (x9_1 : List Int) (x10_1 : Int), v10 = .int .i64 x10_1 ∧ Aside0 (cambiumref06_Write.l0 kq a1 a2 x9_1 x10_1 a0_0 l0_1 l0_2 = some (r1, r2)) ∧ Aside0 (kq ≤ k) ∧ Aside0 (Kd.R (Kd.int .u8) 5 w' w.heap.size (fun _ => True) v9 x9_1) ∧ Aside0 (w'.heap[gb288]? = some (.cells #[.int .i64 a0_0, (.slice A0_1 l0_1.length c0_1), (.slice A0_2 l0_2.length c0_2)] 25 (0, 0))) ∧ Aside0 (Below w.heap.size w w'))
  case atStart => exact ⟨(y290), (0), q14_, H', ⟨Nat.le_refl _⟩, ⟨by (with_reducible repeat (first | apply Kd.R_alloc | apply Kd.R_drewN | apply Kd.R_drew)); exact HO292.out⟩, ⟨q58_⟩, ⟨q21_⟩⟩
  case round =>
   clear H'
   try clear c1
   try clear p2
   try clear c5
   try clear hcz7_0
   try clear hcz7_1
   try clear hcz7_2
   try clear hfz7_0
   try clear hfz7_1
   try clear hfz7_2
   obtain ⟨x9_1, x10_1, rfl, HA, HK1, HO_9, BK288, HB⟩ := hrel
   cases gk with
   | zero => exact absurd (show none = some _ from HA.out) (by simp)
   | succ k1 =>
    have H := HA.out
    clear HA
    simp only [cambiumref06_Write.l0] at H
    by_cases c11 : x10_1 < (l0_1.length : Int)
    ·rw [if_pos c11] at H
     have c11b0 : decide (x10_1 < (l0_1.length : Int)) = true := decide_eq_true c11
     clear c11
     by_cases c12 : 0 ≤ x10_1
     ·rw [if_pos c12] at H
      have c12b0 : decide (0 ≤ x10_1) = true := decide_eq_true c12
      clear c12
      replace H := Option.bind_eq_some_iff.mp H
      obtain ⟨t294, A130, H⟩ := H
      replace H : ((cambiumref01_Put.f k1 t294 (((rd_T52 l0_1 x10_1).f1).length : Int) 1).bind fun t298 => (if t298.length + ((rd_T52 l0_1 x10_1).f1).length < 140737488355328 then (cambiumref06_Write.l0 k1 a1 a2 (t298 ++ ((rd_T52 l0_1 x10_1).f1)) (wrap64 (x10_1 + 1)) a0_0 l0_1 l0_2) else (none))) = some (r1, r2) := H
      have A13 := Aside0.mk A130
      clear A130
      replace H := Option.bind_eq_some_iff.mp H
      obtain ⟨t298, A140, H⟩ := H
      replace H : (if t298.length + ((rd_T52 l0_1 x10_1).f1).length < 140737488355328 then (cambiumref06_Write.l0 k1 a1 a2 (t298 ++ ((rd_T52 l0_1 x10_1).f1)) (wrap64 (x10_1 + 1)) a0_0 l0_1 l0_2) else (none)) = some (r1, r2) := H
      have A14 := Aside0.mk A140
      clear A140
      by_cases c15 : t298.length + ((rd_T52 l0_1 x10_1).f1).length < 140737488355328
      ·rw [if_pos c15] at H
       have LMc15 := Aside0.mk c15
       clear c15
       obtain ⟨y302, hy302⟩ : ∃ y_ : List Int, y_ = (t298 ++ ((rd_T52 l0_1 x10_1).f1)) := ⟨_, rfl⟩
       replace H : (cambiumref06_Write.l0 k1 a1 a2 y302 (wrap64 (x10_1 + 1)) a0_0 l0_1 l0_2) = some (r1, r2) := by first | (rw [hy302]; with_reducible exact H) | (have H2_ := (Option.bind_some _ _).symm.trans H; rw [hy302]; with_reducible exact H2_) | (have H2_ := (Option.bind_some _ _).symm.trans H; with_reducible exact H2_) | with_reducible exact H | (rw [hy302]; exact H) | exact H
       have Ny302 := Aside0.mk hy302
       clear hy302
       have H' := Aside0.mk H
       clear H
       have hcz16_0 : wr.cell? ⟨gb288, 0, none⟩ = some (.int .i64 a0_0) := (blk_cell BK288.out 0).trans rfl
       have hcz16_1 : wr.cell? ⟨gb288, 1, none⟩ = some (.slice A0_1 l0_1.length c0_1) := (blk_cell BK288.out 1).trans rfl
       have hcz16_2 : wr.cell? ⟨gb288, 2, none⟩ = some (.slice A0_2 l0_2.length c0_2) := (blk_cell BK288.out 2).trans rfl
       have hfz16_0 := blk_frozen BK288.out 0
       have hfz16_1 := blk_frozen BK288.out 1
       have hfz16_2 := blk_frozen BK288.out 2
       have p293 : 0 ≤ (x10_1 : Int) := of_decide_eq_true q4_
       have q293 : x10_1 < (l0_1.length : Int) := of_decide_eq_true q4_
       obtain ⟨ad293, A293_3, c293_3, e293, hx293_0, hx293_1, hx293_2, hx293_3, hl293_3, hi293_3⟩ := at_T52 HR0_1.out x10_1 p293 q293
       cases e293
       replace hx293_0 := (HB.out.cell (World.block_lt_of_cell? w _ hx293_0)).trans hx293_0
       replace hx293_1 := (HB.out.cell (World.block_lt_of_cell? w _ hx293_1)).trans hx293_1
       replace hx293_2 := (HB.out.cell (World.block_lt_of_cell? w _ hx293_2)).trans hx293_2
       replace hx293_3 := (HB.out.cell (World.block_lt_of_cell? w _ hx293_3)).trans hx293_3
       have HR293_3 := Aside0.mk hi293_3
       have HC293_3 := Aside0.mk hl293_3
       clear hi293_3 hl293_3
       replace p293 := eq_true p293
       replace q293 := eq_true q293
       obtain ⟨Ao17, co17, eo17⟩ := Kd.R_slice HO_9.out
       subst eo17
       try go_wp2_with (first | ((with_reducible refine gate_callee (f := 35) rfl ?_); refine goesL_ (some 32) rfl rfl Try.func35 q8_ rfl #[.slice Ao17 x9_1.length co17, .agg #[.int .i64 ((rd_T52 l0_1 x10_1).f0.f0), .int .i64 ((rd_T52 l0_1 x10_1).f0.f1), .int .i64 ((rd_T52 l0_1 x10_1).f0.f2)]] rfl q1_ ?_; (with_reducible refine (cambiumref05_Put.calls k1 _ _ x9_1 ((rd_T52 l0_1 x10_1).f0.f0) ((rd_T52 l0_1 x10_1).f0.f1) ((rd_T52 l0_1 x10_1).f0.f2) t294 _ ?side1 ?side2 A13.out).mono ?_); (case side1 => repeat (first | exact (Kd.R_reads' HO_9.out).2.2 | (with_reducible refine Kd.C_alloc ?_ _) | (with_reducible refine Kd.C_drewN ?_ _) | (with_reducible refine Kd.C_drew ?_))); (case side2 => exact (Kd.R_reads' HO_9.out).2.1); rintro e w18 ⟨v295, rfl, ho0, hb⟩; refine ⟨_, rfl, ?_⟩; have n0_ := Aside0.mk (Kd.R_elder' q42_ (Kd.R_base ho0) hb); have n1_ := Aside0.mk (Kd.R_lower (Kd.R_new' ho0 (Kd.R_lt q42_)) (below_size q21_)); have n2_ := Aside0.mk (blk_below (g := gb288) (o := .cells #[.int .i64 a0_0, .slice (some ad293) l0_1.length c0_1, .slice A0_2 l0_2.length c0_2] 25 (0, 0)) q58_ hb); have n3_ := Aside0.mk (below_step q21_ hb); clear HO_9; clear BK288; clear HB; have HO_9 := n0_; have HO296 := n1_; have BK288 := n2_; have HB := n3_; clear n0_ n1_ n2_ n3_; (try clear hb); (try clear hb2); (try clear hk); (try clear hi); (try clear ho0)))
       have n0_ := Aside0.mk (Kd.R_drew HO_9.out)
       have n1_ := Aside0.mk (Kd.R_drew HO296.out)
       have n2_ := Aside0.mk (blk_drew BK288.out)
       have n3_ := Aside0.mk (below_drew1 HB.out)
       clear HO_9
       clear HO296
       clear BK288
       clear HB
       have HO_9 := n0_
       have HO296 := n1_
       have BK288 := n2_
       have HB := n3_
       clear n0_ n1_ n2_ n3_
       have p297 : 0 ≤ (x10_1 : Int) := of_decide_eq_true q4_
       have q297 : x10_1 < (l0_1.length : Int) := of_decide_eq_true q4_
       obtain ⟨ad297, A297_3, c297_3, e297, hx297_0, hx297_1, hx297_2, hx297_3, hl297_3, hi297_3⟩ := at_T52 HR0_1.out x10_1 p297 q297
       have hw297_3 := hx297_3
       have hw297_2 := hx297_2
       have hw297_1 := hx297_1
       have hw297_0 := hx297_0
       obtain rfl : ad293 = ad297 := (by injection e297)
       replace hx297_0 := (HB.out.cell (World.block_lt_of_cell? w _ hx297_0)).trans hx297_0
       replace hx297_1 := (HB.out.cell (World.block_lt_of_cell? w _ hx297_1)).trans hx297_1
       replace hx297_2 := (HB.out.cell (World.block_lt_of_cell? w _ hx297_2)).trans hx297_2
       replace hx297_3 := (HB.out.cell (World.block_lt_of_cell? w _ hx297_3)).trans hx297_3
       have HR297_3 := Aside0.mk hi297_3
       have HC297_3 := Aside0.mk hl297_3
       clear hi297_3 hl297_3
       replace p297 := eq_true p297
       replace q297 := eq_true q297
       have p301 : 0 ≤ (x10_1 : Int) := of_decide_eq_true q4_
       have q301 : x10_1 < (l0_1.length : Int) := of_decide_eq_true q4_
       obtain ⟨ad301, A301_3, c301_3, e301, hx301_0, hx301_1, hx301_2, hx301_3, hl301_3, hi301_3⟩ := at_T52 HR0_1.out x10_1 p301 q301
       have hw301_3 := hx301_3
       have hw301_2 := hx301_2
       have hw301_1 := hx301_1
       have hw301_0 := hx301_0
       obtain rfl : ad293 = ad301 := (by injection e301)
       replace hx301_0 := (HB.out.cell (World.block_lt_of_cell? w _ hx301_0)).trans hx301_0
       replace hx301_1 := (HB.out.cell (World.block_lt_of_cell? w _ hx301_1)).trans hx301_1
       replace hx301_2 := (HB.out.cell (World.block_lt_of_cell? w _ hx301_2)).trans hx301_2
       replace hx301_3 := (HB.out.cell (World.block_lt_of_cell? w _ hx301_3)).trans hx301_3
       have HR301_3 := Aside0.mk hi301_3
       have HC301_3 := Aside0.mk hl301_3
       clear hi301_3 hl301_3
       replace p301 := eq_true p301
       replace q301 := eq_true q301
       have ea_ := Option.some.inj (hx297_3.symm.trans hx301_3)
       injection ea_ with ea_ en_ ec_
       subst ea_
       subst ec_
       clear en_
       obtain ⟨Ao20, co20, eo20⟩ := Kd.R_slice HO296.out
       (first | subst eo20 | (injection eo20 with f1_ f2_ f3_; have f4_ := f1_.symm; have f5_ := f3_.symm; clear f1_ f2_ f3_; subst f4_; subst f5_))
       refine start_ (n := 17) (S := fun w' => w'.cell? ⟨gb288, 0, none⟩ = some (.int .i64 a0_0) ∧ w'.cell? ⟨gb288, 1, none⟩ = some (.slice (some ad293) l0_1.length c0_1) ∧ w'.cell? ⟨gb288, 2, none⟩ = some (.slice A0_2 l0_2.length c0_2) ∧ w'.cell? (ad293.add ((x10_1).toNat * 4)) = some (.int .i64 ((rd_T52 l0_1 x10_1).f0.f0)) ∧ w'.cell? ⟨(ad293.add ((x10_1).toNat * 4)).block, (ad293.add ((x10_1).toNat * 4)).off + 1, none⟩ = some (.int .i64 ((rd_T52 l0_1 x10_1).f0.f1)) ∧ w'.cell? ⟨(ad293.add ((x10_1).toNat * 4)).block, (ad293.add ((x10_1).toNat * 4)).off + 2, none⟩ = some (.int .i64 ((rd_T52 l0_1 x10_1).f0.f2)) ∧ w'.cell? ⟨(ad293.add ((x10_1).toNat * 4)).block, (ad293.add ((x10_1).toNat * 4)).off + 3, none⟩ = some (.slice A297_3 ((rd_T52 l0_1 x10_1).f1).length c297_3) ∧ w'.cell? (ad293.add ((x10_1).toNat * 4)) = some (.int .i64 ((rd_T52 l0_1 x10_1).f0.f0)) ∧ w'.cell? ⟨(ad293.add ((x10_1).toNat * 4)).block, (ad293.add ((x10_1).toNat * 4)).off + 1, none⟩ = some (.int .i64 ((rd_T52 l0_1 x10_1).f0.f1)) ∧ w'.cell? ⟨(ad293.add ((x10_1).toNat * 4)).block, (ad293.add ((x10_1).toNat * 4)).off + 2, none⟩ = some (.int .i64 ((rd_T52 l0_1 x10_1).f0.f2)) ∧ w'.cell? ⟨(ad293.add ((x10_1).toNat * 4)).block, (ad293.add ((x10_1).toNat * 4)).off + 3, none⟩ = some (.slice A297_3 ((rd_T52 l0_1 x10_1).f1).length c297_3)) (ds := []) #[false, false, false, false, false, false, false, false, false, false, false, false, false, false, false, false, false] q8_ rfl rfl ⟨(blk_cell BK288.out 0).trans rfl, (blk_cell BK288.out 1).trans rfl, (blk_cell BK288.out 2).trans rfl, ((HB.out.cell (World.block_lt_of_cell? w _ hw297_0)).trans hw297_0), ((HB.out.cell (World.block_lt_of_cell? w _ hw297_1)).trans hw297_1), ((HB.out.cell (World.block_lt_of_cell? w _ hw297_2)).trans hw297_2), ((HB.out.cell (World.block_lt_of_cell? w _ hw297_3)).trans hw297_3), ((HB.out.cell (World.block_lt_of_cell? w _ hw301_0)).trans hw301_0), ((HB.out.cell (World.block_lt_of_cell? w _ hw301_1)).trans hw301_1), ((HB.out.cell (World.block_lt_of_cell? w _ hw301_2)).trans hw301_2), ((HB.out.cell (World.block_lt_of_cell? w _ hw301_3)).trans hw301_3)⟩ (fun hHeld => ?_); refine with_tabW cambiumref06_Write.tab9 cambiumref06_Write.bits9 (fun HT_ HW_ => ?_)
       generalize w18.drew = w19 at HO_9 HO296 BK288 HB HR297_3 HR301_3 hx297_0 hx297_1 hx297_2 hx297_3 hx301_0 hx301_1 hx301_2 hx301_3 hHeld ⊢
       refine pure_ (i := 0) (N := some 33) (v := ?_) (a' := ?_) #[true, false, false, false, false, false, false, false, false, false, false, false, false, false, false, false, false] rfl rfl (any_of HT_.out q8_) (fun _ _ _ h => h) (Or.inl ⟨by rfl, ?_⟩) ?_ ?_
       rotate_left
       ·intro w'
        go_simp
        with_reducible rfl
       rotate_left
       ·simp only [Act.put, List.setIfInBounds_toArray, List.set_cons_zero, List.set_cons_succ, i64_w, i32_w]
        rfl
       refine pure_ (i := 1) (N := some 34) (v := ?_) (a' := ?_) #[true, true, false, false, false, false, false, false, false, false, false, false, false, false, false, false, false] rfl rfl (any_of HT_.out q8_) (fun _ _ _ h => h) (Or.inl ⟨by rfl, ?_⟩) ?_ ?_
       rotate_left
       ·intro w'
        go_simp
        with_reducible rfl
       rotate_left
       ·simp only [Act.put, List.setIfInBounds_toArray, List.set_cons_zero, List.set_cons_succ, i64_w, i32_w]
        rfl
       refine pure_ (i := 3) (N := some 36) (v := ?_) (a' := ?_) #[true, true, false, true, false, false, false, false, false, false, false, false, false, false, false, false, false] rfl rfl (any_of HT_.out q8_) (fun _ _ _ h => h) (Or.inl ⟨by rfl, ?_⟩) ?_ ?_
       rotate_left
       ·intro w'
        go_simp
        with_reducible rfl
       rotate_left
       ·simp only [Act.put, List.setIfInBounds_toArray, List.set_cons_zero, List.set_cons_succ, i64_w, i32_w]
        rfl
       refine pure_ (i := 9) (N := some 42) (v := ?_) (a' := ?_) #[true, true, false, true, false, false, false, false, false, true, false, false, false, false, false, false, false] rfl rfl (any_of HT_.out q8_) (fun _ _ _ h => h) (Or.inl ⟨by rfl, ?_⟩) ?_ ?_
       rotate_left
       ·intro w'
        go_simp
        with_reducible rfl
       rotate_left
       ·simp only [Act.put, List.setIfInBounds_toArray, List.set_cons_zero, List.set_cons_succ, i64_w, i32_w]
        rfl
       refine pure_ (i := 11) (N := some 44) (v := ?_) (a' := ?_) #[true, true, false, true, false, false, false, false, false, true, false, true, false, false, false, false, false] rfl rfl (any_of HT_.out q8_) (fun _ _ _ h => h) (Or.inl ⟨by rfl, ?_⟩) ?_ ?_
       rotate_left
       ·intro w'
        go_simp
        with_reducible rfl
       rotate_left
       ·simp only [Act.put, List.setIfInBounds_toArray, List.set_cons_zero, List.set_cons_succ, i64_w, i32_w]
        rfl
       refine take_ (i := 2) (N := some 35) (v := ?_) (a' := ?_) #[true, true, true, true, false, false, false, false, false, true, false, true, false, false, false, false, false] rfl rfl (take_ofW HT_.out HW_.out q8_) (fun _ _ _ h => h) (Or.inl ⟨by rfl, ?_⟩) hHeld ?_ ?_
       rotate_left
       ·rintro w' ⟨s0, s1, s2, s3, s4, s5, s6, s7, s8, s9, s10⟩
        go_simp
        with_reducible rfl
       rotate_left
       ·simp only [Act.put, List.setIfInBounds_toArray, List.set_cons_zero, List.set_cons_succ, i64_w, i32_w]
        rfl
       refine pure_ (i := 4) (N := some 37) (v := ?_) (a' := ?_) #[true, true, true, true, true, false, false, false, false, true, false, true, false, false, false, false, false] rfl rfl (any_of HT_.out q8_) (fun _ _ _ h => h) (Or.inl ⟨by rfl, ?_⟩) ?_ ?_
       rotate_left
       ·intro w'
        go_simp
        with_reducible rfl
       rotate_left
       ·simp only [Act.put, List.setIfInBounds_toArray, List.set_cons_zero, List.set_cons_succ, i64_w, i32_w]
        rfl
       refine pure_ (i := 5) (N := some 38) (v := ?_) (a' := ?_) #[true, true, true, true, true, true, false, false, false, true, false, true, false, false, false, false, false] rfl rfl (any_of HT_.out q8_) (fun _ _ _ h => h) (Or.inl ⟨by rfl, ?_⟩) ?_ ?_
       rotate_left
       ·intro w'
        go_simp
        with_reducible rfl
       rotate_left
       ·simp only [Act.put, List.setIfInBounds_toArray, List.set_cons_zero, List.set_cons_succ, i64_w, i32_w]
        rfl
       refine take_ (i := 6) (N := some 39) (v := ?_) (a' := ?_) #[true, true, true, true, true, true, true, false, false, true, false, true, false, false, false, false, false] rfl rfl (take_ofW HT_.out HW_.out q8_) (fun _ _ _ h => h) (Or.inl ⟨by rfl, ?_⟩) hHeld ?_ ?_
       rotate_left
       ·rintro w' ⟨s0, s1, s2, s3, s4, s5, s6, s7, s8, s9, s10⟩
        go_simp
        with_reducible rfl
       rotate_left
       ·simp only [Act.put, List.setIfInBounds_toArray, List.set_cons_zero, List.set_cons_succ, i64_w, i32_w]
        rfl
       refine pure_ (i := 7) (N := some 40) (v := ?_) (a' := ?_) #[true, true, true, true, true, true, true, true, false, true, false, true, false, false, false, false, false] rfl rfl (any_of HT_.out q8_) (fun _ _ _ h => h) (Or.inl ⟨by rfl, ?_⟩) ?_ ?_
       rotate_left
       ·intro w'
        go_simp
        with_reducible rfl
       rotate_left
       ·simp only [Act.put, List.setIfInBounds_toArray, List.set_cons_zero, List.set_cons_succ, i64_w, i32_w]
        rfl
       refine take_ (i := 10) (N := some 43) (v := ?_) (a' := ?_) #[true, true, true, true, true, true, true, true, false, true, true, true, false, false, false, false, false] rfl rfl (take_ofW HT_.out HW_.out q8_) (fun _ _ _ h => h) (Or.inl ⟨by rfl, ?_⟩) hHeld ?_ ?_
       rotate_left
       ·rintro w' ⟨s0, s1, s2, s3, s4, s5, s6, s7, s8, s9, s10⟩
        go_simp
        with_reducible rfl
       rotate_left
       ·simp only [Act.put, List.setIfInBounds_toArray, List.set_cons_zero, List.set_cons_succ, i64_w, i32_w]
        rfl
       refine pure_ (i := 12) (N := some 45) (v := ?_) (a' := ?_) #[true, true, true, true, true, true, true, true, false, true, true, true, true, false, false, false, false] rfl rfl (any_of HT_.out q8_) (fun _ _ _ h => h) (Or.inl ⟨by rfl, ?_⟩) ?_ ?_
       rotate_left
       ·intro w'
        go_simp
        with_reducible rfl
       rotate_left
       ·simp only [Act.put, List.setIfInBounds_toArray, List.set_cons_zero, List.set_cons_succ, i64_w, i32_w]
        rfl
       refine pure_ (i := 13) (N := some 46) (v := ?_) (a' := ?_) #[true, true, true, true, true, true, true, true, false, true, true, true, true, true, false, false, false] rfl rfl (any_of HT_.out q8_) (fun _ _ _ h => h) (Or.inl ⟨by rfl, ?_⟩) ?_ ?_
       rotate_left
       ·intro w'
        go_simp
        with_reducible rfl
       rotate_left
       ·simp only [Act.put, List.setIfInBounds_toArray, List.set_cons_zero, List.set_cons_succ, i64_w, i32_w]
        rfl
       refine take_ (i := 14) (N := some 47) (v := ?_) (a' := ?_) #[true, true, true, true, true, true, true, true, false, true, true, true, true, true, true, false, false] rfl rfl (take_ofW HT_.out HW_.out q8_) (fun _ _ _ h => h) (Or.inl ⟨by rfl, ?_⟩) hHeld ?_ ?_
       rotate_left
       ·rintro w' ⟨s0, s1, s2, s3, s4, s5, s6, s7, s8, s9, s10⟩
        go_simp
        with_reducible rfl
       rotate_left
       ·simp only [Act.put, List.setIfInBounds_toArray, List.set_cons_zero, List.set_cons_succ, i64_w, i32_w]
        rfl
       refine one_ (i := 8) (N := some 41) #[true, true, true, true, true, true, true, true, true, true, true, true, true, true, true, false, false] rfl rfl (one_of HT_.out q8_) q210_ (fun K hK => ?_)
       refine goes_ Try.func36 q8_ rfl #[.slice Ao20 t294.length co20, .int .i64 (((rd_T52 l0_1 x10_1).f1).length : Int), .int .i64 1] (by rfl) rfl rfl q1_ ?_
       with_reducible refine (cambiumref01_Put.calls k1 _ _ t294 (((rd_T52 l0_1 x10_1).f1).length : Int) 1 t298 _ ?side1 ?side2 A14.out).mono ?_
       (case side1 => repeat (first | exact (Kd.R_reads' HO296.out).2.2 | (with_reducible refine Kd.C_alloc ?_ _) | (with_reducible refine Kd.C_drewN ?_ _) | (with_reducible refine Kd.C_drew ?_)))
       (case side2 => exact (Kd.R_reads' HO296.out).2.1)
       rintro e w21 ⟨v299, rfl, ho0, hb⟩
       refine ⟨_, rfl, ?_⟩
       have n0_ := Aside0.mk (Kd.R_elder' q42_ (Kd.R_base ho0) hb)
       have n1_ := Aside0.mk (Kd.R_elder' (by (with_reducible repeat (first | apply Kd.R_alloc | apply Kd.R_drewN | apply Kd.R_drew)); exact HO296.out) (Kd.R_base ho0) hb)
       have n2_ := Aside0.mk (Kd.R_lower (Kd.R_new' (Kd.R_new' ho0 (Kd.R_lt q42_)) (Kd.R_lt (by (with_reducible repeat (first | apply Kd.R_alloc | apply Kd.R_drewN | apply Kd.R_drew)); exact HO296.out))) (below_size q21_))
       have n3_ := Aside0.mk (blk_below (g := gb288) (o := .cells #[.int .i64 a0_0, .slice (some ad293) l0_1.length c0_1, .slice A0_2 l0_2.length c0_2] 25 (0, 0)) q58_ hb)
       have n4_ := Aside0.mk (below_step q21_ hb)
       clear HO_9
       clear HO296
       clear BK288
       clear HB
       have HO_9 := n0_
       have HO296 := n1_
       have HO300 := n2_
       have BK288 := n3_
       have HB := n4_
       clear n0_ n1_ n2_ n3_ n4_
       (try clear hb)
       (try clear hb2)
       (try clear hk)
       (try clear hi)
       (try clear ho0)
       refine hK.out _ _ ⟨(blk_cell BK288.out 0).trans rfl, (blk_cell BK288.out 1).trans rfl, (blk_cell BK288.out 2).trans rfl, ((HB.out.cell (World.block_lt_of_cell? w _ hw297_0)).trans hw297_0), ((HB.out.cell (World.block_lt_of_cell? w _ hw297_1)).trans hw297_1), ((HB.out.cell (World.block_lt_of_cell? w _ hw297_2)).trans hw297_2), ((HB.out.cell (World.block_lt_of_cell? w _ hw297_3)).trans hw297_3), ((HB.out.cell (World.block_lt_of_cell? w _ hw301_0)).trans hw301_0), ((HB.out.cell (World.block_lt_of_cell? w _ hw301_1)).trans hw301_1), ((HB.out.cell (World.block_lt_of_cell? w _ hw301_2)).trans hw301_2), ((HB.out.cell (World.block_lt_of_cell? w _ hw301_3)).trans hw301_3)⟩ (fun hHeld => ?_)
       clear hK K
       refine norm_ (a' := ?_) ?_ ?_
       rotate_left
       ·show Act.put _ (some 41) _ = _
        simp only [Act.put, List.setIfInBounds_toArray, List.set_cons_zero, List.set_cons_succ, i64_w, i32_w]
        rfl
       refine one_ (i := 15) (N := some 48) #[true, true, true, true, true, true, true, true, true, true, true, true, true, true, true, true, false] rfl rfl (one_of HT_.out q8_) q210_ (fun K hK => ?_)
       refine Kd.R_append_rows_step (Kd.int .u8) (w0 := w) w.heap.size (by rfl) (.tmp 41) (.tmp 47) 29 5 (.int .u8 0) 1 rfl Try.underlying29 info5 rfl q210_ (by omega) v299 t298 ((rd_T52 l0_1 x10_1).f1) _ _ _ (fun k_ => some k_ ≠ (.slice Ao17 x9_1.length co17 : Value).ownBlock ∧ some k_ ≠ (.slice Ao20 t294.length co20 : Value).ownBlock) (fun _ => False) rfl rfl ?aO ?aR (fun _ _ h => h) (fun _ h => h.elim) ?aF ?aB ?aS ?aL ?_
       (case aR => repeat (first | exact (Kd.C_below HR301_3.out HB.out) | (with_reducible refine Kd.C_alloc ?_ _) | (with_reducible refine Kd.C_drewN ?_ _) | (with_reducible refine Kd.C_drew ?_)))
       (case aB => exact q21_)
       (case aF => exact (fun k_ hk => ⟨Kd.fresh' (Kd.R_lt q42_) k_ hk, Kd.fresh' (Kd.R_lt (by (with_reducible repeat (first | apply Kd.R_alloc | apply Kd.R_drewN | apply Kd.R_drew)); exact HO296.out)) k_ hk⟩))
       (case aO => exact (by (with_reducible repeat (first | apply Kd.R_alloc | apply Kd.R_drewN | apply Kd.R_drew)); exact Kd.R_mono HO300.out (fun _ hk => ⟨hk.1.2, hk.2⟩)))
       (case aS => exact (below_size q21_))
       (case aL => have := LMc15.out; omega)
       intro v303 w22 ho hb hg hat
       rw [← Ny302.out] at ho
       have n0_ := Aside0.mk (Kd.R_after (ok := (fun k_ => some k_ ≠ (.slice Ao20 t294.length co20 : Value).ownBlock)) (by (with_reducible repeat (first | apply Kd.R_alloc | apply Kd.R_drewN | apply Kd.R_drew)); exact Kd.R_mono HO_9.out (fun _ hk => ⟨hk.1.2, hk.2⟩)) hg hat)
       have n1_ := Aside0.mk (blk_grown (g := gb288) (o := .cells #[.int .i64 a0_0, .slice (some ad293) l0_1.length c0_1, .slice A0_2 l0_2.length c0_2] 25 (0, 0)) q58_ hg (Kd.R_ne HO300.out BK288.out q210_))
       have n2_ := Aside0.mk (Kd.R_after (ok := (fun k_ => some k_ ≠ (.slice Ao17 x9_1.length co17 : Value).ownBlock)) (by (with_reducible repeat (first | apply Kd.R_alloc | apply Kd.R_drewN | apply Kd.R_drew)); exact Kd.R_mono HO296.out (fun _ hk => ⟨hk.1.2, hk.2⟩)) hg hat)
       have n3_ := Aside0.mk (hb)
       have n4_ := Aside0.mk (ho)
       clear HO_9
       clear BK288
       clear HO296
       clear HB
       clear HO300
       have HO_9 := n0_
       have BK288 := n1_
       have HO296 := n2_
       have HB := n3_
       have HO304 := n4_
       clear n0_ n1_ n2_ n3_ n4_
       clear ho hb hg hat
       refine hK.out _ _ ⟨(blk_cell BK288.out 0).trans rfl, (blk_cell BK288.out 1).trans rfl, (blk_cell BK288.out 2).trans rfl, ((HB.out.cell (World.block_lt_of_cell? w _ hw297_0)).trans hw297_0), ((HB.out.cell (World.block_lt_of_cell? w _ hw297_1)).trans hw297_1), ((HB.out.cell (World.block_lt_of_cell? w _ hw297_2)).trans hw297_2), ((HB.out.cell (World.block_lt_of_cell? w _ hw297_3)).trans hw297_3), ((HB.out.cell (World.block_lt_of_cell? w _ hw301_0)).trans hw301_0), ((HB.out.cell (World.block_lt_of_cell? w _ hw301_1)).trans hw301_1), ((HB.out.cell (World.block_lt_of_cell? w _ hw301_2)).trans hw301_2), ((HB.out.cell (World.block_lt_of_cell? w _ hw301_3)).trans hw301_3)⟩ (fun hHeld => ?_)
       clear hK K
       refine norm_ (a' := ?_) ?_ ?_
       rotate_left
       ·show Act.put _ (some 48) _ = _
        simp only [Act.put, List.setIfInBounds_toArray, List.set_cons_zero, List.set_cons_succ, i64_w, i32_w]
        rfl
       refine pure_ (i := 16) (N := some 9) (v := ?_) (a' := ?_) #[true, true, true, true, true, true, true, true, true, true, true, true, true, true, true, true, true] rfl rfl (any_of HT_.out q8_) (fun _ _ _ h => h) (Or.inl ⟨by rfl, ?_⟩) ?_ ?_
       rotate_left
       ·intro w'
        go_simp
        with_reducible rfl
       rotate_left
       ·simp only [Act.put, List.setIfInBounds_toArray, List.set_cons_zero, List.set_cons_succ, i64_w, i32_w]
        rfl
       refine done_ (done_of HT_.out q8_) ?_
       try go_wp2
       go_roundg k1
       case measure => have := HK1.out; omega
       case rel => exact ⟨(y302), (wrap64 (x10_1 + 1)), q14_, H', ⟨by have := HK1.out; omega⟩, ⟨by (with_reducible repeat (first | apply Kd.R_alloc | apply Kd.R_drewN | apply Kd.R_drew)); exact Kd.R_mono HO304.out (fun _ hk => trivial)⟩, ⟨q58_⟩, ⟨q21_⟩⟩
      ·rw [if_neg c15] at H
       exact absurd H (by simp)
     ·rw [if_neg c12] at H
      exact absurd H (by simp)
    ·rw [if_neg c11] at H
     have c11b0 : decide (x10_1 < (l0_1.length : Int)) = false := decide_eq_false c11
     clear c11
     have H' := Aside0.mk H
     clear H
     have hcz23_0 : wr.cell? ⟨gb288, 0, none⟩ = some (.int .i64 a0_0) := (blk_cell BK288.out 0).trans rfl
     have hcz23_1 : wr.cell? ⟨gb288, 1, none⟩ = some (.slice A0_1 l0_1.length c0_1) := (blk_cell BK288.out 1).trans rfl
     have hcz23_2 : wr.cell? ⟨gb288, 2, none⟩ = some (.slice A0_2 l0_2.length c0_2) := (blk_cell BK288.out 2).trans rfl
     have hfz23_0 := blk_frozen BK288.out 0
     have hfz23_1 := blk_frozen BK288.out 1
     have hfz23_2 := blk_frozen BK288.out 2
     go_wp2
     go_loopg [9, 11] k1 (fun kq v9 v11 w' => ∃ (x9_2 : List Int) (x11_2 : Int), v11 = .int .i64 x11_2 ∧ Aside0 (cambiumref06_Write.l1 kq a1 a2 x9_2 x11_2 a0_0 l0_1 l0_2 = some (r1, r2)) ∧ Aside0 (kq ≤ k1) ∧ Aside0 (Kd.R (Kd.int .u8) 5 w' w.heap.size (fun _ => True) v9 x9_2) ∧ Aside0 (w'.heap[gb288]? = some (.cells #[.int .i64 a0_0, (.slice A0_1 l0_1.length c0_1), (.slice A0_2 l0_2.length c0_2)] 25 (0, 0))) ∧ Aside0 (Below w.heap.size w w'))
     case atStart => exact ⟨(x9_1), (0), q14_, H', ⟨Nat.le_refl _⟩, ⟨q42_⟩, ⟨q58_⟩, ⟨q21_⟩⟩
     case round =>
      clear H'
      try clear c1
      try clear c2
      try clear p2
      try clear q2
      try clear hx2
      try clear c3
      try clear p3
      try clear q3
      try clear hx3
      try clear c5
      try clear p6
      try clear c11
      try clear c11b0
      try clear c12
      try clear c12b0
      try clear c14
      try clear c15
      try clear hcz16_0
      try clear hcz16_1
      try clear hcz16_2
      try clear hcz23_0
      try clear hcz23_1
      try clear hcz23_2
      try clear hcz7_0
      try clear hcz7_1
      try clear hcz7_2
      try clear hfz16_0
      try clear hfz16_1
      try clear hfz16_2
      try clear hfz23_0
      try clear hfz23_1
      try clear hfz23_2
      try clear hfz7_0
      try clear hfz7_1
      try clear hfz7_2
      try clear hx293_0
      try clear hx293_1
      try clear hx293_2
      try clear hx293_3
      try clear hx297_0
      try clear hx297_1
      try clear hx297_2
      try clear hx297_3
      try clear hx301_0
      try clear hx301_1
      try clear hx301_2
      try clear hx301_3
      try clear p2
      try clear p293
      try clear p297
      try clear p301
      try clear q293
      try clear q297
      try clear q301
      obtain ⟨x9_2, x11_2, rfl, HA, HK2, HO_9, BK288, HB⟩ := hrel
      cases gk with
      | zero => exact absurd (show none = some _ from HA.out) (by simp)
      | succ k2 =>
       have H := HA.out
       clear HA
       simp only [cambiumref06_Write.l1] at H
       by_cases c24 : x11_2 < (l0_2.length : Int)
       ·rw [if_pos c24] at H
        have c24b0 : decide (x11_2 < (l0_2.length : Int)) = true := decide_eq_true c24
        clear c24
        by_cases c25 : 0 ≤ x11_2
        ·rw [if_pos c25] at H
         have c25b0 : decide (0 ≤ x11_2) = true := decide_eq_true c25
         clear c25
         replace H := Option.bind_eq_some_iff.mp H
         obtain ⟨t306, A260, H⟩ := H
         replace H : ((cambiumref01_Put.f k2 t306 ((rd_T57 l0_2 x11_2).f1) 2).bind fun t310 => (cambiumref06_Write.l1 k2 a1 a2 t310 (wrap64 (x11_2 + 1)) a0_0 l0_1 l0_2)) = some (r1, r2) := H
         have A26 := Aside0.mk A260
         clear A260
         replace H := Option.bind_eq_some_iff.mp H
         obtain ⟨t310, A270, H⟩ := H
         replace H : (cambiumref06_Write.l1 k2 a1 a2 t310 (wrap64 (x11_2 + 1)) a0_0 l0_1 l0_2) = some (r1, r2) := H
         have A27 := Aside0.mk A270
         clear A270
         have H' := Aside0.mk H
         clear H
         have hcz28_0 : wr.cell? ⟨gb288, 0, none⟩ = some (.int .i64 a0_0) := (blk_cell BK288.out 0).trans rfl
         have hcz28_1 : wr.cell? ⟨gb288, 1, none⟩ = some (.slice A0_1 l0_1.length c0_1) := (blk_cell BK288.out 1).trans rfl
         have hcz28_2 : wr.cell? ⟨gb288, 2, none⟩ = some (.slice A0_2 l0_2.length c0_2) := (blk_cell BK288.out 2).trans rfl
         have hfz28_0 := blk_frozen BK288.out 0
         have hfz28_1 := blk_frozen BK288.out 1
         have hfz28_2 := blk_frozen BK288.out 2
         try go_wp2
         have n0_ := Aside0.mk (Kd.R_drew HO_9.out)
         have n1_ := Aside0.mk (blk_drew BK288.out)
         have n2_ := Aside0.mk (below_drew1 HB.out)
         clear HO_9
         clear BK288
         clear HB
         have HO_9 := n0_
         have BK288 := n1_
         have HB := n2_
         clear n0_ n1_ n2_
         have p305 : 0 ≤ (x11_2 : Int) := of_decide_eq_true q4_
         have q305 : x11_2 < (l0_2.length : Int) := of_decide_eq_true q4_
         obtain ⟨ad305, e305, hx305_0, hx305_1, hx305_2, hx305_3⟩ := at_T57 HR0_2.out x11_2 p305 q305
         have hw305_3 := hx305_3
         have hw305_2 := hx305_2
         have hw305_1 := hx305_1
         have hw305_0 := hx305_0
         cases e305
         replace hx305_0 := (HB.out.cell (World.block_lt_of_cell? w _ hx305_0)).trans hx305_0
         replace hx305_1 := (HB.out.cell (World.block_lt_of_cell? w _ hx305_1)).trans hx305_1
         replace hx305_2 := (HB.out.cell (World.block_lt_of_cell? w _ hx305_2)).trans hx305_2
         replace hx305_3 := (HB.out.cell (World.block_lt_of_cell? w _ hx305_3)).trans hx305_3
         replace p305 := eq_true p305
         replace q305 := eq_true q305
         have p309 : 0 ≤ (x11_2 : Int) := of_decide_eq_true q4_
         have q309 : x11_2 < (l0_2.length : Int) := of_decide_eq_true q4_
         obtain ⟨ad309, e309, hx309_0, hx309_1, hx309_2, hx309_3⟩ := at_T57 HR0_2.out x11_2 p309 q309
         have hw309_3 := hx309_3
         have hw309_2 := hx309_2
         have hw309_1 := hx309_1
         have hw309_0 := hx309_0
         obtain rfl : ad305 = ad309 := (by injection e309)
         replace hx309_0 := (HB.out.cell (World.block_lt_of_cell? w _ hx309_0)).trans hx309_0
         replace hx309_1 := (HB.out.cell (World.block_lt_of_cell? w _ hx309_1)).trans hx309_1
         replace hx309_2 := (HB.out.cell (World.block_lt_of_cell? w _ hx309_2)).trans hx309_2
         replace hx309_3 := (HB.out.cell (World.block_lt_of_cell? w _ hx309_3)).trans hx309_3
         replace p309 := eq_true p309
         replace q309 := eq_true q309
         obtain ⟨Ao30, co30, eo30⟩ := Kd.R_slice HO_9.out
         (first | subst eo30 | (injection eo30 with f1_ f2_ f3_; have f4_ := f1_.symm; have f5_ := f3_.symm; clear f1_ f2_ f3_; subst f4_; subst f5_))
         refine start_ (n := 16) (S := fun w' => w'.cell? ⟨gb288, 0, none⟩ = some (.int .i64 a0_0) ∧ w'.cell? ⟨gb288, 1, none⟩ = some (.slice A0_1 l0_1.length c0_1) ∧ w'.cell? ⟨gb288, 2, none⟩ = some (.slice (some ad305) l0_2.length c0_2) ∧ w'.cell? (ad305.add ((x11_2).toNat * 4)) = some (.int .i64 ((rd_T57 l0_2 x11_2).f0.f0)) ∧ w'.cell? ⟨(ad305.add ((x11_2).toNat * 4)).block, (ad305.add ((x11_2).toNat * 4)).off + 1, none⟩ = some (.int .i64 ((rd_T57 l0_2 x11_2).f0.f1)) ∧ w'.cell? ⟨(ad305.add ((x11_2).toNat * 4)).block, (ad305.add ((x11_2).toNat * 4)).off + 2, none⟩ = some (.int .i64 ((rd_T57 l0_2 x11_2).f0.f2)) ∧ w'.cell? ⟨(ad305.add ((x11_2).toNat * 4)).block, (ad305.add ((x11_2).toNat * 4)).off + 3, none⟩ = some (.int .i64 ((rd_T57 l0_2 x11_2).f1)) ∧ w'.cell? (ad305.add ((x11_2).toNat * 4)) = some (.int .i64 ((rd_T57 l0_2 x11_2).f0.f0)) ∧ w'.cell? ⟨(ad305.add ((x11_2).toNat * 4)).block, (ad305.add ((x11_2).toNat * 4)).off + 1, none⟩ = some (.int .i64 ((rd_T57 l0_2 x11_2).f0.f1)) ∧ w'.cell? ⟨(ad305.add ((x11_2).toNat * 4)).block, (ad305.add ((x11_2).toNat * 4)).off + 2, none⟩ = some (.int .i64 ((rd_T57 l0_2 x11_2).f0.f2)) ∧ w'.cell? ⟨(ad305.add ((x11_2).toNat * 4)).block, (ad305.add ((x11_2).toNat * 4)).off + 3, none⟩ = some (.int .i64 ((rd_T57 l0_2 x11_2).f1))) (ds := []) #[false, false, false, false, false, false, false, false, false, false, false, false, false, false, false, false] q8_ rfl rfl ⟨(blk_cell BK288.out 0).trans rfl, (blk_cell BK288.out 1).trans rfl, (blk_cell BK288.out 2).trans rfl, ((HB.out.cell (World.block_lt_of_cell? w _ hw305_0)).trans hw305_0), ((HB.out.cell (World.block_lt_of_cell? w _ hw305_1)).trans hw305_1), ((HB.out.cell (World.block_lt_of_cell? w _ hw305_2)).trans hw305_2), ((HB.out.cell (World.block_lt_of_cell? w _ hw305_3)).trans hw305_3), ((HB.out.cell (World.block_lt_of_cell? w _ hw309_0)).trans hw309_0), ((HB.out.cell (World.block_lt_of_cell? w _ hw309_1)).trans hw309_1), ((HB.out.cell (World.block_lt_of_cell? w _ hw309_2)).trans hw309_2), ((HB.out.cell (World.block_lt_of_cell? w _ hw309_3)).trans hw309_3)⟩ (fun hHeld => ?_); refine with_tabW cambiumref06_Write.tab13 cambiumref06_Write.bits13 (fun HT_ HW_ => ?_)
         generalize wr.drew = w29 at HO_9 BK288 HB hx305_0 hx305_1 hx305_2 hx305_3 hx309_0 hx309_1 hx309_2 hx309_3 hHeld ⊢
         refine pure_ (i := 0) (N := some 56) (v := ?_) (a' := ?_) #[true, false, false, false, false, false, false, false, false, false, false, false, false, false, false, false] rfl rfl (any_of HT_.out q8_) (fun _ _ _ h => h) (Or.inl ⟨by rfl, ?_⟩) ?_ ?_
         rotate_left
         ·intro w'
          go_simp
          with_reducible rfl
         rotate_left
         ·simp only [Act.put, List.setIfInBounds_toArray, List.set_cons_zero, List.set_cons_succ, i64_w, i32_w]
          rfl
         refine pure_ (i := 1) (N := some 57) (v := ?_) (a' := ?_) #[true, true, false, false, false, false, false, false, false, false, false, false, false, false, false, false] rfl rfl (any_of HT_.out q8_) (fun _ _ _ h => h) (Or.inl ⟨by rfl, ?_⟩) ?_ ?_
         rotate_left
         ·intro w'
          go_simp
          with_reducible rfl
         rotate_left
         ·simp only [Act.put, List.setIfInBounds_toArray, List.set_cons_zero, List.set_cons_succ, i64_w, i32_w]
          rfl
         refine pure_ (i := 3) (N := some 59) (v := ?_) (a' := ?_) #[true, true, false, true, false, false, false, false, false, false, false, false, false, false, false, false] rfl rfl (any_of HT_.out q8_) (fun _ _ _ h => h) (Or.inl ⟨by rfl, ?_⟩) ?_ ?_
         rotate_left
         ·intro w'
          go_simp
          with_reducible rfl
         rotate_left
         ·simp only [Act.put, List.setIfInBounds_toArray, List.set_cons_zero, List.set_cons_succ, i64_w, i32_w]
          rfl
         refine pure_ (i := 8) (N := some 64) (v := ?_) (a' := ?_) #[true, true, false, true, false, false, false, false, true, false, false, false, false, false, false, false] rfl rfl (any_of HT_.out q8_) (fun _ _ _ h => h) (Or.inl ⟨by rfl, ?_⟩) ?_ ?_
         rotate_left
         ·intro w'
          go_simp
          with_reducible rfl
         rotate_left
         ·simp only [Act.put, List.setIfInBounds_toArray, List.set_cons_zero, List.set_cons_succ, i64_w, i32_w]
          rfl
         refine pure_ (i := 10) (N := some 66) (v := ?_) (a' := ?_) #[true, true, false, true, false, false, false, false, true, false, true, false, false, false, false, false] rfl rfl (any_of HT_.out q8_) (fun _ _ _ h => h) (Or.inl ⟨by rfl, ?_⟩) ?_ ?_
         rotate_left
         ·intro w'
          go_simp
          with_reducible rfl
         rotate_left
         ·simp only [Act.put, List.setIfInBounds_toArray, List.set_cons_zero, List.set_cons_succ, i64_w, i32_w]
          rfl
         refine take_ (i := 2) (N := some 58) (v := ?_) (a' := ?_) #[true, true, true, true, false, false, false, false, true, false, true, false, false, false, false, false] rfl rfl (take_ofW HT_.out HW_.out q8_) (fun _ _ _ h => h) (Or.inl ⟨by rfl, ?_⟩) hHeld ?_ ?_
         rotate_left
         ·rintro w' ⟨s0, s1, s2, s3, s4, s5, s6, s7, s8, s9, s10⟩
          go_simp
          with_reducible rfl
         rotate_left
         ·simp only [Act.put, List.setIfInBounds_toArray, List.set_cons_zero, List.set_cons_succ, i64_w, i32_w]
          rfl
         refine pure_ (i := 4) (N := some 60) (v := ?_) (a' := ?_) #[true, true, true, true, true, false, false, false, true, false, true, false, false, false, false, false] rfl rfl (any_of HT_.out q8_) (fun _ _ _ h => h) (Or.inl ⟨by rfl, ?_⟩) ?_ ?_
         rotate_left
         ·intro w'
          go_simp
          with_reducible rfl
         rotate_left
         ·simp only [Act.put, List.setIfInBounds_toArray, List.set_cons_zero, List.set_cons_succ, i64_w, i32_w]
          rfl
         refine pure_ (i := 5) (N := some 61) (v := ?_) (a' := ?_) #[true, true, true, true, true, true, false, false, true, false, true, false, false, false, false, false] rfl rfl (any_of HT_.out q8_) (fun _ _ _ h => h) (Or.inl ⟨by rfl, ?_⟩) ?_ ?_
         rotate_left
         ·intro w'
          go_simp
          with_reducible rfl
         rotate_left
         ·simp only [Act.put, List.setIfInBounds_toArray, List.set_cons_zero, List.set_cons_succ, i64_w, i32_w]
          rfl
         refine take_ (i := 6) (N := some 62) (v := ?_) (a' := ?_) #[true, true, true, true, true, true, true, false, true, false, true, false, false, false, false, false] rfl rfl (take_ofW HT_.out HW_.out q8_) (fun _ _ _ h => h) (Or.inl ⟨by rfl, ?_⟩) hHeld ?_ ?_
         rotate_left
         ·rintro w' ⟨s0, s1, s2, s3, s4, s5, s6, s7, s8, s9, s10⟩
          go_simp
          with_reducible rfl
         rotate_left
         ·simp only [Act.put, List.setIfInBounds_toArray, List.set_cons_zero, List.set_cons_succ, i64_w, i32_w]
          rfl
         refine take_ (i := 9) (N := some 65) (v := ?_) (a' := ?_) #[true, true, true, true, true, true, true, false, true, true, true, false, false, false, false, false] rfl rfl (take_ofW HT_.out HW_.out q8_) (fun _ _ _ h => h) (Or.inl ⟨by rfl, ?_⟩) hHeld ?_ ?_
         rotate_left
         ·rintro w' ⟨s0, s1, s2, s3, s4, s5, s6, s7, s8, s9, s10⟩
          go_simp
          with_reducible rfl
         rotate_left
         ·simp only [Act.put, List.setIfInBounds_toArray, List.set_cons_zero, List.set_cons_succ, i64_w, i32_w]
          rfl
         refine pure_ (i := 11) (N := some 67) (v := ?_) (a' := ?_) #[true, true, true, true, true, true, true, false, true, true, true, true, false, false, false, false] rfl rfl (any_of HT_.out q8_) (fun _ _ _ h => h) (Or.inl ⟨by rfl, ?_⟩) ?_ ?_
         rotate_left
         ·intro w'
          go_simp
          with_reducible rfl
         rotate_left
         ·simp only [Act.put, List.setIfInBounds_toArray, List.set_cons_zero, List.set_cons_succ, i64_w, i32_w]
          rfl
         refine pure_ (i := 12) (N := some 68) (v := ?_) (a' := ?_) #[true, true, true, true, true, true, true, false, true, true, true, true, true, false, false, false] rfl rfl (any_of HT_.out q8_) (fun _ _ _ h => h) (Or.inl ⟨by rfl, ?_⟩) ?_ ?_
         rotate_left
         ·intro w'
          go_simp
          with_reducible rfl
         rotate_left
         ·simp only [Act.put, List.setIfInBounds_toArray, List.set_cons_zero, List.set_cons_succ, i64_w, i32_w]
          rfl
         refine take_ (i := 13) (N := some 69) (v := ?_) (a' := ?_) #[true, true, true, true, true, true, true, false, true, true, true, true, true, true, false, false] rfl rfl (take_ofW HT_.out HW_.out q8_) (fun _ _ _ h => h) (Or.inl ⟨by rfl, ?_⟩) hHeld ?_ ?_
         rotate_left
         ·rintro w' ⟨s0, s1, s2, s3, s4, s5, s6, s7, s8, s9, s10⟩
          go_simp
          with_reducible rfl
         rotate_left
         ·simp only [Act.put, List.setIfInBounds_toArray, List.set_cons_zero, List.set_cons_succ, i64_w, i32_w]
          rfl
         refine one_ (i := 7) (N := some 63) #[true, true, true, true, true, true, true, true, true, true, true, true, true, true, false, false] rfl rfl (one_of HT_.out q8_) q210_ (fun K hK => ?_)
         refine goes_ Try.func35 q8_ rfl #[.slice Ao30 x9_2.length co30, .agg #[.int .i64 ((rd_T57 l0_2 x11_2).f0.f0), .int .i64 ((rd_T57 l0_2 x11_2).f0.f1), .int .i64 ((rd_T57 l0_2 x11_2).f0.f2)]] (by rfl) rfl rfl q1_ ?_
         with_reducible refine (cambiumref05_Put.calls k2 _ _ x9_2 ((rd_T57 l0_2 x11_2).f0.f0) ((rd_T57 l0_2 x11_2).f0.f1) ((rd_T57 l0_2 x11_2).f0.f2) t306 _ ?side1 ?side2 A26.out).mono ?_
         (case side1 => repeat (first | exact (Kd.R_reads' HO_9.out).2.2 | (with_reducible refine Kd.C_alloc ?_ _) | (with_reducible refine Kd.C_drewN ?_ _) | (with_reducible refine Kd.C_drew ?_)))
         (case side2 => exact (Kd.R_reads' HO_9.out).2.1)
         rintro e w31 ⟨v307, rfl, ho0, hb⟩
         refine ⟨_, rfl, ?_⟩
         have n0_ := Aside0.mk (Kd.R_elder' q42_ (Kd.R_base ho0) hb)
         have n1_ := Aside0.mk (Kd.R_lower (Kd.R_new' ho0 (Kd.R_lt q42_)) (below_size q21_))
         have n2_ := Aside0.mk (blk_below (g := gb288) (o := .cells #[.int .i64 a0_0, .slice A0_1 l0_1.length c0_1, .slice (some ad305) l0_2.length c0_2] 25 (0, 0)) q58_ hb)
         have n3_ := Aside0.mk (below_step q21_ hb)
         clear HO_9
         clear BK288
         clear HB
         have HO_9 := n0_
         have HO308 := n1_
         have BK288 := n2_
         have HB := n3_
         clear n0_ n1_ n2_ n3_
         (try clear hb)
         (try clear hb2)
         (try clear hk)
         (try clear hi)
         (try clear ho0)
         obtain ⟨Ao32, co32, eo32⟩ := Kd.R_slice HO308.out
         (first | subst eo32 | (injection eo32 with f1_ f2_ f3_; have f4_ := f1_.symm; have f5_ := f3_.symm; clear f1_ f2_ f3_; subst f4_; subst f5_))
         refine hK.out _ _ ⟨(blk_cell BK288.out 0).trans rfl, (blk_cell BK288.out 1).trans rfl, (blk_cell BK288.out 2).trans rfl, ((HB.out.cell (World.block_lt_of_cell? w _ hw305_0)).trans hw305_0), ((HB.out.cell (World.block_lt_of_cell? w _ hw305_1)).trans hw305_1), ((HB.out.cell (World.block_lt_of_cell? w _ hw305_2)).trans hw305_2), ((HB.out.cell (World.block_lt_of_cell? w _ hw305_3)).trans hw305_3), ((HB.out.cell (World.block_lt_of_cell? w _ hw309_0)).trans hw309_0), ((HB.out.cell (World.block_lt_of_cell? w _ hw309_1)).trans hw309_1), ((HB.out.cell (World.block_lt_of_cell? w _ hw309_2)).trans hw309_2), ((HB.out.cell (World.block_lt_of_cell? w _ hw309_3)).trans hw309_3)⟩ (fun hHeld => ?_)
         clear hK K
         refine norm_ (a' := ?_) ?_ ?_
         rotate_left
         ·show Act.put _ (some 63) _ = _
          simp only [Act.put, List.setIfInBounds_toArray, List.set_cons_zero, List.set_cons_succ, i64_w, i32_w]
          rfl
         refine one_ (i := 14) (N := some 70) #[true, true, true, true, true, true, true, true, true, true, true, true, true, true, true, false] rfl rfl (one_of HT_.out q8_) q210_ (fun K hK => ?_)
         refine goes_ Try.func36 q8_ rfl #[.slice Ao32 t306.length co32, .int .i64 ((rd_T57 l0_2 x11_2).f1), .int .i64 2] (by rfl) rfl rfl q1_ ?_
         with_reducible refine (cambiumref01_Put.calls k2 _ _ t306 ((rd_T57 l0_2 x11_2).f1) 2 t310 _ ?side1 ?side2 A27.out).mono ?_
         (case side1 => repeat (first | exact (Kd.R_reads' HO308.out).2.2 | (with_reducible refine Kd.C_alloc ?_ _) | (with_reducible refine Kd.C_drewN ?_ _) | (with_reducible refine Kd.C_drew ?_)))
         (case side2 => exact (Kd.R_reads' HO308.out).2.1)
         rintro e w33 ⟨v311, rfl, ho0, hb⟩
         refine ⟨_, rfl, ?_⟩
         have n0_ := Aside0.mk (Kd.R_elder' q42_ (Kd.R_base ho0) hb)
         have n1_ := Aside0.mk (Kd.R_elder' (by (with_reducible repeat (first | apply Kd.R_alloc | apply Kd.R_drewN | apply Kd.R_drew)); exact HO308.out) (Kd.R_base ho0) hb)
         have n2_ := Aside0.mk (Kd.R_lower (Kd.R_new' (Kd.R_new' ho0 (Kd.R_lt q42_)) (Kd.R_lt (by (with_reducible repeat (first | apply Kd.R_alloc | apply Kd.R_drewN | apply Kd.R_drew)); exact HO308.out))) (below_size q21_))
         have n3_ := Aside0.mk (blk_below (g := gb288) (o := .cells #[.int .i64 a0_0, .slice A0_1 l0_1.length c0_1, .slice (some ad305) l0_2.length c0_2] 25 (0, 0)) q58_ hb)
         have n4_ := Aside0.mk (below_step q21_ hb)
         clear HO_9
         clear HO308
         clear BK288
         clear HB
         have HO_9 := n0_
         have HO308 := n1_
         have HO312 := n2_
         have BK288 := n3_
         have HB := n4_
         clear n0_ n1_ n2_ n3_ n4_
         (try clear hb)
         (try clear hb2)
         (try clear hk)
         (try clear hi)
         (try clear ho0)
         refine hK.out _ _ ⟨(blk_cell BK288.out 0).trans rfl, (blk_cell BK288.out 1).trans rfl, (blk_cell BK288.out 2).trans rfl, ((HB.out.cell (World.block_lt_of_cell? w _ hw305_0)).trans hw305_0), ((HB.out.cell (World.block_lt_of_cell? w _ hw305_1)).trans hw305_1), ((HB.out.cell (World.block_lt_of_cell? w _ hw305_2)).trans hw305_2), ((HB.out.cell (World.block_lt_of_cell? w _ hw305_3)).trans hw305_3), ((HB.out.cell (World.block_lt_of_cell? w _ hw309_0)).trans hw309_0), ((HB.out.cell (World.block_lt_of_cell? w _ hw309_1)).trans hw309_1), ((HB.out.cell (World.block_lt_of_cell? w _ hw309_2)).trans hw309_2), ((HB.out.cell (World.block_lt_of_cell? w _ hw309_3)).trans hw309_3)⟩ (fun hHeld => ?_)
         clear hK K
         refine norm_ (a' := ?_) ?_ ?_
         rotate_left
         ·show Act.put _ (some 70) _ = _
          simp only [Act.put, List.setIfInBounds_toArray, List.set_cons_zero, List.set_cons_succ, i64_w, i32_w]
          rfl
         refine pure_ (i := 15) (N := some 9) (v := ?_) (a' := ?_) #[true, true, true, true, true, true, true, true, true, true, true, true, true, true, true, true] rfl rfl (any_of HT_.out q8_) (fun _ _ _ h => h) (Or.inl ⟨by rfl, ?_⟩) ?_ ?_
         rotate_left
         ·intro w'
          go_simp
          with_reducible rfl
         rotate_left
         ·simp only [Act.put, List.setIfInBounds_toArray, List.set_cons_zero, List.set_cons_succ, i64_w, i32_w]
          rfl
         refine done_ (done_of HT_.out q8_) ?_
         try go_wp2
         go_roundg k2
         case measure => have := HK1.out; have := HK2.out; omega
         case rel => exact ⟨(t310), (wrap64 (x11_2 + 1)), q14_, H', ⟨q189_⟩, ⟨by (with_reducible repeat (first | apply Kd.R_alloc | apply Kd.R_drewN | apply Kd.R_drew)); exact Kd.R_mono HO312.out (fun _ hk => trivial)⟩, ⟨q58_⟩, ⟨q21_⟩⟩
        ·rw [if_neg c25] at H
         exact absurd H (by simp)
       ·rw [if_neg c24] at H
        have c24b0 : decide (x11_2 < (l0_2.length : Int)) = false := decide_eq_false c24
        clear c24
        by_cases c34 : a0_0 > 0
        ·rw [if_pos c34] at H
         have c34b0 : decide (0 < a0_0) = true := decide_eq_true c34
         clear c34
         replace H := Option.bind_eq_some_iff.mp H
         obtain ⟨⟨t314, t317⟩, A350, H⟩ := H
         replace H : (some (t314, t317)) = some (r1, r2) := H
         have A35 := Aside0.mk A350
         clear A350
         simp only [Option.some.injEq, Prod.mk.injEq] at H
         obtain ⟨rfl, rfl⟩ := H
         have hcz36_0 : wr.cell? ⟨gb288, 0, none⟩ = some (.int .i64 a0_0) := (blk_cell BK288.out 0).trans rfl
         have hcz36_1 : wr.cell? ⟨gb288, 1, none⟩ = some (.slice A0_1 l0_1.length c0_1) := (blk_cell BK288.out 1).trans rfl
         have hcz36_2 : wr.cell? ⟨gb288, 2, none⟩ = some (.slice A0_2 l0_2.length c0_2) := (blk_cell BK288.out 2).trans rfl
         have hfz36_0 := blk_frozen BK288.out 0
         have hfz36_1 := blk_frozen BK288.out 1
         have hfz36_2 := blk_frozen BK288.out 2
         go_wp2_with (first | ((with_reducible refine gate_dst (N := 12) rfl ?_); refine box_event ?hg (N := 12) ?hd (cs := #[.int .i64 0, .int .i64 0, .int .i64 0, .int .i64 0, .int .i64 0]) (t := 62) ?hr ?_; (case hd => rfl); (case hg => rfl); (case hr => first | (go_simp; done) | (go_simp; rfl)); intro gb313 hg w37 hbox hb; have n0_ := Aside0.mk (Kd.R_below q42_ hb); have n1_ := Aside0.mk (blk_below (g := gb288) (o := .cells #[.int .i64 a0_0, .slice A0_1 l0_1.length c0_1, .slice A0_2 l0_2.length c0_2] 25 (0, 0)) q58_ hb); have n2_ := Aside0.mk (below_step q21_ hb); have n3_ := Aside0.mk (hbox); have n4_ := Aside0.mk ((by rw [hg]; exact (below_size q21_) : w.heap.size ≤ gb313)); have n5_ := Aside0.mk ((by rw [hg]; exact (below_size q21_) : w.heap.size ≤ gb313)); have n6_ := Aside0.mk ((by rw [hg]; exact Nat.ne_of_lt (blk_lt (g := gb288) (o := .cells #[.int .i64 a0_0, .slice A0_1 l0_1.length c0_1, .slice A0_2 l0_2.length c0_2] 25 (0, 0)) q58_) : gb288 ≠ gb313)); have n7_ := Aside0.mk ((by rw [hg]; exact Nat.ne_of_gt (blk_lt (g := gb288) (o := .cells #[.int .i64 a0_0, .slice A0_1 l0_1.length c0_1, .slice A0_2 l0_2.length c0_2] 25 (0, 0)) q58_) : gb313 ≠ gb288)); clear HO_9; clear BK288; clear HB; have HO_9 := n0_; have BK288 := n1_; have HB := n2_; have BK313 := n3_; have GW313 := n4_; have GE313 := n5_; have NB288_313 := n6_; have NB313_288 := n7_; clear n0_ n1_ n2_ n3_ n4_ n5_ n6_ n7_; clear hb hbox hg; have hnb38 := NB313_288.out; have hnc38 := NB288_313.out; have hcz39_0 : w37.cell? ⟨gb313, 0, none⟩ = some (.int .i64 0) := (blk_cell BK313.out 0).trans rfl; have hcz39_1 : w37.cell? ⟨gb313, 1, none⟩ = some (.int .i64 0) := (blk_cell BK313.out 1).trans rfl; have hcz39_2 : w37.cell? ⟨gb313, 2, none⟩ = some (.int .i64 0) := (blk_cell BK313.out 2).trans rfl; have hcz39_3 : w37.cell? ⟨gb313, 3, none⟩ = some (.int .i64 0) := (blk_cell BK313.out 3).trans rfl; have hcz39_4 : w37.cell? ⟨gb313, 4, none⟩ = some (.int .i64 0) := (blk_cell BK313.out 4).trans rfl; have hfz39_0 := blk_frozen BK313.out 0; have hfz39_1 := blk_frozen BK313.out 1; have hfz39_2 := blk_frozen BK313.out 2; have hfz39_3 := blk_frozen BK313.out 3; have hfz39_4 := blk_frozen BK313.out 4; have hcz40_0 : w37.cell? ⟨gb288, 0, none⟩ = some (.int .i64 a0_0) := (blk_cell BK288.out 0).trans rfl; have hcz40_1 : w37.cell? ⟨gb288, 1, none⟩ = some (.slice A0_1 l0_1.length c0_1) := (blk_cell BK288.out 1).trans rfl; have hcz40_2 : w37.cell? ⟨gb288, 2, none⟩ = some (.slice A0_2 l0_2.length c0_2) := (blk_cell BK288.out 2).trans rfl; have hfz40_0 := blk_frozen BK288.out 0; have hfz40_1 := blk_frozen BK288.out 1; have hfz40_2 := blk_frozen BK288.out 2; obtain ⟨Ao41, co41, eo41⟩ := Kd.R_slice HO_9.out; subst eo41) | ((with_reducible refine gate_callee (f := 37) rfl ?_); refine goesL_ (some 89) rfl rfl Try.func37 q8_ rfl #[.agg #[.int .i64 4, .int .i64 a1, .int .i64 (wrap64 ((l0_1.length : Int) + (l0_2.length : Int))), .int .i64 a0_0, .int .i64 a2], .slice Ao41 x9_2.length co41] rfl q1_ ?_; (with_reducible refine (cambiumref04_Seal.calls k2 4 a1 (wrap64 ((l0_1.length : Int) + (l0_2.length : Int))) a0_0 a2 _ _ x9_2 t314 t317 _ ?side1 ?side2 A35.out).mono ?_); (case side1 => refine (Kd.R_reads' (e := 5) (base := w.heap.size) (ok := fun k_ => True) (n := x9_2.length) (c := co41) ?_).2.2; exact q90_); (case side2 => exact (Kd.R_reads' HO_9.out).2.1); rintro e w42 ⟨v315, rfl, ho0, hb⟩; refine ⟨_, rfl, ?_⟩; have n0_ := Aside0.mk (Kd.R_elder' q90_ (Kd.R_base ho0) hb); have n1_ := Aside0.mk (Kd.R_lower (Kd.R_new' ho0 (Kd.R_lt q90_)) (below_size q157_)); have n2_ := Aside0.mk (blk_below (g := gb288) (o := .cells #[.int .i64 a0_0, .slice A0_1 l0_1.length c0_1, .slice A0_2 l0_2.length c0_2] 25 (0, 0)) (by (with_reducible repeat (first | refine blk_drewN ?_ _ | refine blk_drew ?_ | refine blk_alloc ?_ _)); refine blk_far ?_ NB288_313.out _; (with_reducible repeat (first | refine blk_drewN ?_ _ | refine blk_drew ?_ | refine blk_alloc ?_ _)); refine blk_far ?_ NB288_313.out _; (with_reducible repeat (first | refine blk_drewN ?_ _ | refine blk_drew ?_ | refine blk_alloc ?_ _)); refine blk_far ?_ NB288_313.out _; (with_reducible repeat (first | refine blk_drewN ?_ _ | refine blk_drew ?_ | refine blk_alloc ?_ _)); refine blk_far ?_ NB288_313.out _; (with_reducible repeat (first | refine blk_drewN ?_ _ | refine blk_drew ?_ | refine blk_alloc ?_ _)); refine blk_far ?_ NB288_313.out _; (with_reducible repeat (first | refine blk_drewN ?_ _ | refine blk_drew ?_ | refine blk_alloc ?_ _)); refine blk_far ?_ NB288_313.out _; (with_reducible repeat (first | refine blk_drewN ?_ _ | refine blk_drew ?_ | refine blk_alloc ?_ _)); exact BK288.out) hb); have n3_ := Aside0.mk (blk_below (g := gb313) (o := .cells #[.int .i64 4, .int .i64 a1, .int .i64 (wrap64 ((l0_1.length : Int) + (l0_2.length : Int))), .int .i64 a0_0, .int .i64 a2] 62 (0, 0)) (by (with_reducible repeat (first | refine blk_drewN ?_ _ | refine blk_drew ?_ | refine blk_alloc ?_ _)); refine blk_put (cs := #[.int .i64 3, .int .i64 a1, .int .i64 (wrap64 ((l0_1.length : Int) + (l0_2.length : Int))), .int .i64 a0_0, .int .i64 a2]) ?_ 0 _ rfl; (with_reducible repeat (first | refine blk_drewN ?_ _ | refine blk_drew ?_ | refine blk_alloc ?_ _)); refine blk_put (cs := #[.int .i64 3, .int .i64 a1, .int .i64 (wrap64 ((l0_1.length : Int) + (l0_2.length : Int))), .int .i64 a0_0, .int .i64 0]) ?_ 4 _ rfl; (with_reducible repeat (first | refine blk_drewN ?_ _ | refine blk_drew ?_ | refine blk_alloc ?_ _)); refine blk_put (cs := #[.int .i64 3, .int .i64 a1, .int .i64 (wrap64 ((l0_1.length : Int) + (l0_2.length : Int))), .int .i64 0, .int .i64 0]) ?_ 3 _ rfl; (with_reducible repeat (first | refine blk_drewN ?_ _ | refine blk_drew ?_ | refine blk_alloc ?_ _)); refine blk_put (cs := #[.int .i64 3, .int .i64 a1, .int .i64 0, .int .i64 0, .int .i64 0]) ?_ 2 _ rfl; (with_reducible repeat (first | refine blk_drewN ?_ _ | refine blk_drew ?_ | refine blk_alloc ?_ _)); refine blk_put (cs := #[.int .i64 3, .int .i64 0, .int .i64 0, .int .i64 0, .int .i64 0]) ?_ 1 _ rfl; (with_reducible repeat (first | refine blk_drewN ?_ _ | refine blk_drew ?_ | refine blk_alloc ?_ _)); refine blk_put (cs := #[.int .i64 0, .int .i64 0, .int .i64 0, .int .i64 0, .int .i64 0]) ?_ 0 _ rfl; (with_reducible repeat (first | refine blk_drewN ?_ _ | refine blk_drew ?_ | refine blk_alloc ?_ _)); exact BK313.out) hb); have n4_ := Aside0.mk (below_step q157_ hb); clear HO_9; clear BK288; clear BK313; clear HB; have HO_9 := n0_; have HO316 := n1_; have BK288 := n2_; have BK313 := n3_; have HB := n4_; clear n0_ n1_ n2_ n3_ n4_; (try clear hb); (try clear hb2); (try clear hk); (try clear hi); (try clear ho0)))
         go_ret2
         exact ⟨_, by first | rfl | (simp [errW_none, errW_some] <;> rfl) | (simp [*, errW_none, errW_some] <;> rfl), by (with_reducible repeat (first | apply Kd.R_alloc | apply Kd.R_drewN | apply Kd.R_drew)); exact Kd.R_mono HO316.out (fun _ hk => trivial), by repeat (first | (with_reducible first | exact HB.out | apply below_alloc | apply pw_below_drewN | apply below_drew1 | refine below_set ?_ GE288.out | refine below_set ?_ GE313.out) | exact HB.out)⟩
        ·rw [if_neg c34] at H
         have c34b0 : decide (0 < a0_0) = false := decide_eq_false c34
         clear c34
         replace H := Option.bind_eq_some_iff.mp H
         obtain ⟨⟨t318, t321⟩, A430, H⟩ := H
         replace H : (some (t318, t321)) = some (r1, r2) := H
         have A43 := Aside0.mk A430
         clear A430
         simp only [Option.some.injEq, Prod.mk.injEq] at H
         obtain ⟨rfl, rfl⟩ := H
         have hcz44_0 : wr.cell? ⟨gb288, 0, none⟩ = some (.int .i64 a0_0) := (blk_cell BK288.out 0).trans rfl
         have hcz44_1 : wr.cell? ⟨gb288, 1, none⟩ = some (.slice A0_1 l0_1.length c0_1) := (blk_cell BK288.out 1).trans rfl
         have hcz44_2 : wr.cell? ⟨gb288, 2, none⟩ = some (.slice A0_2 l0_2.length c0_2) := (blk_cell BK288.out 2).trans rfl
         have hfz44_0 := blk_frozen BK288.out 0
         have hfz44_1 := blk_frozen BK288.out 1
         have hfz44_2 := blk_frozen BK288.out 2
         go_wp2_with (first | ((with_reducible refine gate_dst (N := 12) rfl ?_); refine box_event ?hg (N := 12) ?hd (cs := #[.int .i64 0, .int .i64 0, .int .i64 0, .int .i64 0, .int .i64 0]) (t := 62) ?hr ?_; (case hd => rfl); (case hg => rfl); (case hr => first | (go_simp; done) | (go_simp; rfl)); intro gb313 hg w45 hbox hb; have n0_ := Aside0.mk (Kd.R_below q42_ hb); have n1_ := Aside0.mk (blk_below (g := gb288) (o := .cells #[.int .i64 a0_0, .slice A0_1 l0_1.length c0_1, .slice A0_2 l0_2.length c0_2] 25 (0, 0)) q58_ hb); have n2_ := Aside0.mk (below_step q21_ hb); have n3_ := Aside0.mk (hbox); have n4_ := Aside0.mk ((by rw [hg]; exact (below_size q21_) : w.heap.size ≤ gb313)); have n5_ := Aside0.mk ((by rw [hg]; exact (below_size q21_) : w.heap.size ≤ gb313)); have n6_ := Aside0.mk ((by rw [hg]; exact Nat.ne_of_lt (blk_lt (g := gb288) (o := .cells #[.int .i64 a0_0, .slice A0_1 l0_1.length c0_1, .slice A0_2 l0_2.length c0_2] 25 (0, 0)) q58_) : gb288 ≠ gb313)); have n7_ := Aside0.mk ((by rw [hg]; exact Nat.ne_of_gt (blk_lt (g := gb288) (o := .cells #[.int .i64 a0_0, .slice A0_1 l0_1.length c0_1, .slice A0_2 l0_2.length c0_2] 25 (0, 0)) q58_) : gb313 ≠ gb288)); clear HO_9; clear BK288; clear HB; have HO_9 := n0_; have BK288 := n1_; have HB := n2_; have BK313 := n3_; have GW313 := n4_; have GE313 := n5_; have NB288_313 := n6_; have NB313_288 := n7_; clear n0_ n1_ n2_ n3_ n4_ n5_ n6_ n7_; clear hb hbox hg; have hnb46 := NB313_288.out; have hnc46 := NB288_313.out; have hcz47_0 : w45.cell? ⟨gb313, 0, none⟩ = some (.int .i64 0) := (blk_cell BK313.out 0).trans rfl; have hcz47_1 : w45.cell? ⟨gb313, 1, none⟩ = some (.int .i64 0) := (blk_cell BK313.out 1).trans rfl; have hcz47_2 : w45.cell? ⟨gb313, 2, none⟩ = some (.int .i64 0) := (blk_cell BK313.out 2).trans rfl; have hcz47_3 : w45.cell? ⟨gb313, 3, none⟩ = some (.int .i64 0) := (blk_cell BK313.out 3).trans rfl; have hcz47_4 : w45.cell? ⟨gb313, 4, none⟩ = some (.int .i64 0) := (blk_cell BK313.out 4).trans rfl; have hfz47_0 := blk_frozen BK313.out 0; have hfz47_1 := blk_frozen BK313.out 1; have hfz47_2 := blk_frozen BK313.out 2; have hfz47_3 := blk_frozen BK313.out 3; have hfz47_4 := blk_frozen BK313.out 4; have hcz48_0 : w45.cell? ⟨gb288, 0, none⟩ = some (.int .i64 a0_0) := (blk_cell BK288.out 0).trans rfl; have hcz48_1 : w45.cell? ⟨gb288, 1, none⟩ = some (.slice A0_1 l0_1.length c0_1) := (blk_cell BK288.out 1).trans rfl; have hcz48_2 : w45.cell? ⟨gb288, 2, none⟩ = some (.slice A0_2 l0_2.length c0_2) := (blk_cell BK288.out 2).trans rfl; have hfz48_0 := blk_frozen BK288.out 0; have hfz48_1 := blk_frozen BK288.out 1; have hfz48_2 := blk_frozen BK288.out 2; obtain ⟨Ao49, co49, eo49⟩ := Kd.R_slice HO_9.out; subst eo49) | ((with_reducible refine gate_callee (f := 37) rfl ?_); refine goesL_ (some 89) rfl rfl Try.func37 q8_ rfl #[.agg #[.int .i64 3, .int .i64 a1, .int .i64 (wrap64 ((l0_1.length : Int) + (l0_2.length : Int))), .int .i64 a0_0, .int .i64 a2], .slice Ao49 x9_2.length co49] rfl q1_ ?_; (with_reducible refine (cambiumref04_Seal.calls k2 3 a1 (wrap64 ((l0_1.length : Int) + (l0_2.length : Int))) a0_0 a2 _ _ x9_2 t318 t321 _ ?side1 ?side2 A43.out).mono ?_); (case side1 => refine (Kd.R_reads' (e := 5) (base := w.heap.size) (ok := fun k_ => True) (n := x9_2.length) (c := co49) ?_).2.2; exact q101_); (case side2 => exact (Kd.R_reads' HO_9.out).2.1); rintro e w50 ⟨v319, rfl, ho0, hb⟩; refine ⟨_, rfl, ?_⟩; have n0_ := Aside0.mk (Kd.R_elder' q101_ (Kd.R_base ho0) hb); have n1_ := Aside0.mk (Kd.R_lower (Kd.R_new' ho0 (Kd.R_lt q101_)) (below_size q157_)); have n2_ := Aside0.mk (blk_below (g := gb288) (o := .cells #[.int .i64 a0_0, .slice A0_1 l0_1.length c0_1, .slice A0_2 l0_2.length c0_2] 25 (0, 0)) (by (with_reducible repeat (first | refine blk_drewN ?_ _ | refine blk_drew ?_ | refine blk_alloc ?_ _)); refine blk_far ?_ NB288_313.out _; (with_reducible repeat (first | refine blk_drewN ?_ _ | refine blk_drew ?_ | refine blk_alloc ?_ _)); refine blk_far ?_ NB288_313.out _; (with_reducible repeat (first | refine blk_drewN ?_ _ | refine blk_drew ?_ | refine blk_alloc ?_ _)); refine blk_far ?_ NB288_313.out _; (with_reducible repeat (first | refine blk_drewN ?_ _ | refine blk_drew ?_ | refine blk_alloc ?_ _)); refine blk_far ?_ NB288_313.out _; (with_reducible repeat (first | refine blk_drewN ?_ _ | refine blk_drew ?_ | refine blk_alloc ?_ _)); refine blk_far ?_ NB288_313.out _; (with_reducible repeat (first | refine blk_drewN ?_ _ | refine blk_drew ?_ | refine blk_alloc ?_ _)); exact BK288.out) hb); have n3_ := Aside0.mk (blk_below (g := gb313) (o := .cells #[.int .i64 3, .int .i64 a1, .int .i64 (wrap64 ((l0_1.length : Int) + (l0_2.length : Int))), .int .i64 a0_0, .int .i64 a2] 62 (0, 0)) (by (with_reducible repeat (first | refine blk_drewN ?_ _ | refine blk_drew ?_ | refine blk_alloc ?_ _)); refine blk_put (cs := #[.int .i64 3, .int .i64 a1, .int .i64 (wrap64 ((l0_1.length : Int) + (l0_2.length : Int))), .int .i64 a0_0, .int .i64 0]) ?_ 4 _ rfl; (with_reducible repeat (first | refine blk_drewN ?_ _ | refine blk_drew ?_ | refine blk_alloc ?_ _)); refine blk_put (cs := #[.int .i64 3, .int .i64 a1, .int .i64 (wrap64 ((l0_1.length : Int) + (l0_2.length : Int))), .int .i64 0, .int .i64 0]) ?_ 3 _ rfl; (with_reducible repeat (first | refine blk_drewN ?_ _ | refine blk_drew ?_ | refine blk_alloc ?_ _)); refine blk_put (cs := #[.int .i64 3, .int .i64 a1, .int .i64 0, .int .i64 0, .int .i64 0]) ?_ 2 _ rfl; (with_reducible repeat (first | refine blk_drewN ?_ _ | refine blk_drew ?_ | refine blk_alloc ?_ _)); refine blk_put (cs := #[.int .i64 3, .int .i64 0, .int .i64 0, .int .i64 0, .int .i64 0]) ?_ 1 _ rfl; (with_reducible repeat (first | refine blk_drewN ?_ _ | refine blk_drew ?_ | refine blk_alloc ?_ _)); refine blk_put (cs := #[.int .i64 0, .int .i64 0, .int .i64 0, .int .i64 0, .int .i64 0]) ?_ 0 _ rfl; (with_reducible repeat (first | refine blk_drewN ?_ _ | refine blk_drew ?_ | refine blk_alloc ?_ _)); exact BK313.out) hb); have n4_ := Aside0.mk (below_step q157_ hb); clear HO_9; clear BK288; clear BK313; clear HB; have HO_9 := n0_; have HO320 := n1_; have BK288 := n2_; have BK313 := n3_; have HB := n4_; clear n0_ n1_ n2_ n3_ n4_; (try clear hb); (try clear hb2); (try clear hk); (try clear hi); (try clear ho0)))
         go_ret2
         exact ⟨_, by first | rfl | (simp [errW_none, errW_some] <;> rfl) | (simp [*, errW_none, errW_some] <;> rfl), by (with_reducible repeat (first | apply Kd.R_alloc | apply Kd.R_drewN | apply Kd.R_drew)); exact Kd.R_mono HO320.out (fun _ hk => trivial), by repeat (first | (with_reducible first | exact HB.out | apply below_alloc | apply pw_below_drewN | apply below_drew1 | refine below_set ?_ GE288.out | refine below_set ?_ GE313.out) | exact HB.out)⟩
 ·replace c5 := Bool.eq_false_iff.mpr c5
  subst c5
  have H1 : (some (([] : List Int), 1)) = some (r1, r2) := by rw [if_neg (show ¬ (false = true) by decide)] at H; exact H
  clear H
  have H := H1
  clear H1
  simp only [Option.some.injEq, Prod.mk.injEq] at H
  obtain ⟨rfl, rfl⟩ := H
  go_enter Try.func14, Try.ntmps14
  go_wp2_with (first | ((with_reducible refine gate_dst (N := 3) rfl ?_); refine box_event ?hg (N := 3) ?hd (cs := #[.int .i64 a0_0, .slice A0_1 l0_1.length c0_1, .slice A0_2 l0_2.length c0_2]) (t := 25) ?hr ?_; (case hd => rfl); (case hg => rfl); (case hr => first | (go_simp; done) | (go_simp; rfl)); intro gb288 hg w51 hbox hb; have n0_ := Aside0.mk (below_step q0_ hb); have n1_ := Aside0.mk (hbox); have n2_ := Aside0.mk ((by rw [hg]; exact (below_size q0_) : w.heap.size ≤ gb288)); have n3_ := Aside0.mk ((by rw [hg]; exact (below_size q0_) : w.heap.size ≤ gb288)); clear HB; have HB := n0_; have BK288 := n1_; have GW288 := n2_; have GE288 := n3_; clear n0_ n1_ n2_ n3_; clear hb hbox hg; have hcz52_0 : w51.cell? ⟨gb288, 0, none⟩ = some (.int .i64 a0_0) := (blk_cell BK288.out 0).trans rfl; have hcz52_1 : w51.cell? ⟨gb288, 1, none⟩ = some (.slice A0_1 l0_1.length c0_1) := (blk_cell BK288.out 1).trans rfl; have hcz52_2 : w51.cell? ⟨gb288, 2, none⟩ = some (.slice A0_2 l0_2.length c0_2) := (blk_cell BK288.out 2).trans rfl; have hfz52_0 := blk_frozen BK288.out 0; have hfz52_1 := blk_frozen BK288.out 1; have hfz52_2 := blk_frozen BK288.out 2) | ((with_reducible refine gate_callee (f := 12) rfl ?_); refine goesL_ (some 14) rfl rfl Try.func12 q8_ rfl #[.agg #[.int .i64 a0_0, .slice A0_1 l0_1.length c0_1, .slice A0_2 l0_2.length c0_2]] rfl q1_ ?_; (with_reducible refine (cambiumref06_May.calls k a0_0 _ _ l0_1 _ _ l0_2 false _ ?side1 ?side2 ?side3 ?side4 A4.out).mono ?_); (case side1 => repeat (first | exact (Kd.C_below HR0_1.out HB.out) | (with_reducible refine Kd.C_alloc ?_ _) | (with_reducible refine Kd.C_drewN ?_ _) | (with_reducible refine Kd.C_drew ?_))); (case side2 => exact HC0_1.out); (case side3 => repeat (first | exact (Kd.C_below HR0_2.out HB.out) | (with_reducible refine Kd.C_alloc ?_ _) | (with_reducible refine Kd.C_drewN ?_ _) | (with_reducible refine Kd.C_drew ?_))); (case side4 => exact HC0_2.out); rintro e w53 ⟨rfl, hb⟩; refine ⟨_, rfl, ?_⟩; have n0_ := Aside0.mk (blk_below (g := gb288) (o := .cells #[.int .i64 a0_0, .slice A0_1 l0_1.length c0_1, .slice A0_2 l0_2.length c0_2] 25 (0, 0)) q58_ hb); have n1_ := Aside0.mk (below_step q21_ hb); clear BK288; clear HB; have BK288 := n0_; have HB := n1_; clear n0_ n1_; (try clear hb); (try clear hb2); (try clear hk); (try clear hi)))
  go_ret2
  exact ⟨_, by first | rfl | (simp [errW_none, errW_some] <;> rfl) | (simp [*, errW_none, errW_some] <;> rfl), by first | exact Kd.R_nil _ _ _ _ _ | exact Kd.N_nil _ _ _ _ _ | exact Kd.V_nil _ _ _ _ _ | exact Kd.Q_nil _ _ _ _ _ | exact Kd.S_nil _ _ _ _ _, by repeat (first | (with_reducible first | exact HB.out | apply below_alloc | apply pw_below_drewN | apply below_drew1 | refine below_set ?_ GE288.out) | exact HB.out)⟩

end Go.Proofs.Ytcjnknpbikfimaa.P
