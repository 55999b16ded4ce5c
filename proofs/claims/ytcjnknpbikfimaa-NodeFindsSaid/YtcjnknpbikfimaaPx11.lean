/- Functions and contracts, written by a program (mkprint.py, a wrapper of ours around the print); texts between GIVEN marks are ours. -/
import Derived.Test.YtcjnknpbikfimaaPx0
import Derived.Test.YtcjnknpbikfimaaPx7
import Derived.Test.YtcjnknpbikfimaaPx8
import Derived.Test.YtcjnknpbikfimaaPx9
import Derived.Test.YtcjnknpbikfimaaPx10
namespace Go.Proofs.Ytcjnknpbikfimaa.P
open Go.RowKit Go.Proofs.YtcjnknpbikfimaaW.PrintWords Go.Proofs.YtcjnknpbikfimaaW.PrintLast Go.Proofs.YtcjnknpbikfimaaW.PrintMore
attribute [local go_sem] max2_int min2_int max_two min_two max_three min_three max_four min_four   -- for this text's walks alone
set_option linter.unusedVariables false
set_option linter.unusedSimpArgs false
theorem q47_ {P : Prop} (h : P := by (with_reducible repeat (first | refine blk_drewN ?_ _ | refine blk_drew ?_ | refine blk_alloc ?_ _)); exact BK145.out) : P := h
theorem q51_ {P : Prop} (h : P := by repeat (first | (with_reducible first | exact HB.out | apply below_alloc | apply pw_below_drewN | apply below_drew1 | refine below_set ?_ GE145.out | refine below_set ?_ GE147.out) | exact HB.out)) : P := h
theorem q71_ {P : Prop} (h : P := by (with_reducible repeat (first | refine blk_drewN ?_ _ | refine blk_drew ?_ | refine blk_alloc ?_ _)); exact BK147.out) : P := h
theorem q78_ {P : Prop} (h : P := by repeat (first | (with_reducible first | exact HB.out | apply below_alloc | apply pw_below_drewN | apply below_drew1 | refine below_set ?_ GE145.out | refine below_set ?_ GE147.out | refine below_set ?_ GE149.out) | exact HB.out)) : P := h
theorem q105_ {P : Prop} (h : P := by repeat (first | (with_reducible first | exact HB.out | apply below_alloc | apply pw_below_drewN | apply below_drew1 | refine below_set ?_ GE145.out | refine below_set ?_ GE147.out | refine below_set ?_ GE160.out) | exact HB.out)) : P := h
theorem q141_ {P : Prop} (h : P := by repeat (first | (with_reducible first | exact HB.out | apply below_alloc | apply pw_below_drewN | apply below_drew1 | refine below_set ?_ GE145.out) | exact HB.out)) : P := h
theorem q190_ {P : Prop} (h : P := by (with_reducible repeat (first | apply Kd.R_alloc | apply Kd.R_drewN | apply Kd.R_drew)); exact (Kd.R_mono (Kd.R_far (p := ⟨gb147, 0, none⟩) (Kd.R_types HO_9.out BK147.out (by decide)) (fun _ hk => hk.2) (.int .i64 4)) (fun _ h_ => h_.1))) : P := h

/-! ### node_Write: function 13 -/
mutual
def node_Write.l0 : Nat → List Int → List (S52) → Int → Int → Int → List (S52) → List (S57) → Int → Int → Int → Int → Int → Option (List Int × Int)
 | 0, _, _, _, _, _, _, _, _, _, _, _, _ => none
 | k + 1, x9, x30, x31, x32, x146000, x146001, x146002, x148000, x148001, x148002, x148003, x148004 => if x32 < x31 then (if 0 ≤ x32 then (if x32 < (x30.length : Int) then ((key_Put.f x9 ((rd_T52 x30 x32).f0.f0) ((rd_T52 x30 x32).f0.f1) ((rd_T52 x30 x32).f0.f2)).bind fun t150 => ((num_Put.f t150 (((rd_T52 x30 x32).f1).length : Int) 1).bind fun t153 => (if t153.length + ((rd_T52 x30 x32).f1).length < 140737488355328 then (node_Write.l0 k (t153 ++ ((rd_T52 x30 x32).f1)) x30 x31 (wrap64 (x32 + 1)) x146000 x146001 x146002 x148000 x148001 x148002 x148003 x148004) else (none)))) else (none)) else (none)) else (node_Write.l1 k x9 x146002 (x146002.length : Int) 0 x146000 x146001 x146002 x148000 x148001 x148002 x148003 x148004)
def node_Write.l1 : Nat → List Int → List (S57) → Int → Int → Int → List (S52) → List (S57) → Int → Int → Int → Int → Int → Option (List Int × Int)
 | 0, _, _, _, _, _, _, _, _, _, _, _, _ => none
 | k + 1, x9, x49, x50, x51, x146000, x146001, x146002, x148000, x148001, x148002, x148003, x148004 => if x51 < x50 then (if 0 ≤ x51 then (if x51 < (x49.length : Int) then ((key_Put.f x9 ((rd_T57 x49 x51).f0.f0) ((rd_T57 x49 x51).f0.f1) ((rd_T57 x49 x51).f0.f2)).bind fun t161 => ((num_Put.f t161 ((rd_T57 x49 x51).f1) 2).bind fun t164 => (node_Write.l1 k t164 x49 x50 (wrap64 (x51 + 1)) x146000 x146001 x146002 x148000 x148001 x148002 x148003 x148004))) else (none)) else (none)) else (if x146000 > 0 then ((seal_Seal.f 4 x148001 x148002 x148003 x148004 x9).bind fun bt167 => (some (bt167.1, bt167.2))) else ((seal_Seal.f x148000 x148001 x148002 x148003 x148004 x9).bind fun bt171 => (some (bt171.1, bt171.2))))
end
def node_Write.f (k : Nat) (a0_0 : Int) (l0_1 : List (S52)) (l0_2 : List (S57)) (a1 : Int) (a2 : Int) : Option (List Int × Int) := (node_May.f k a0_0 l0_1 l0_2).bind fun t146 => (if t146 = true then (node_Write.l0 k ([] : List Int) l0_1 (l0_1.length : Int) 0 a0_0 l0_1 l0_2 3 a1 (wrap64 ((l0_1.length : Int) + (l0_2.length : Int))) a0_0 a2) else (some (([] : List Int), 1)))
theorem node_Write.mono_l : ∀ k, (∀ y0 y1 y2 y3 y4 y5 y6 y7 y8 y9 y10 y11, LeO (node_Write.l0 k y0 y1 y2 y3 y4 y5 y6 y7 y8 y9 y10 y11) (node_Write.l0 (k + 1) y0 y1 y2 y3 y4 y5 y6 y7 y8 y9 y10 y11)) ∧ (∀ y0 y1 y2 y3 y4 y5 y6 y7 y8 y9 y10 y11, LeO (node_Write.l1 k y0 y1 y2 y3 y4 y5 y6 y7 y8 y9 y10 y11) (node_Write.l1 (k + 1) y0 y1 y2 y3 y4 y5 y6 y7 y8 y9 y10 y11))
 | 0 => ⟨fun _ _ _ _ _ _ _ _ _ _ _ _ r h => by simp [node_Write.l0] at h, fun _ _ _ _ _ _ _ _ _ _ _ _ r h => by simp [node_Write.l1] at h⟩
 | k + 1 => by
  obtain ⟨ih0, ih1⟩ := node_Write.mono_l k
  refine ⟨?_, ?_⟩
  ·intro y0 y1 y2 y3 y4 y5 y6 y7 y8 y9 y10 y11
   unfold node_Write.l0
   repeat' first
   | (with_reducible exact ih0 _ _ _ _ _ _ _ _ _ _ _ _)
   | (with_reducible exact ih1 _ _ _ _ _ _ _ _ _ _ _ _)
   | (with_reducible exact node_May.mono _ _ _ _)
   | (with_reducible exact LeO.refl _)
   | (with_reducible exact LeO.none _)
   | (with_reducible refine LeO.ite ?_ ?_)
   | (with_reducible refine LeO.bind ?_ (fun _ => ?_))
   | exact ih0 _ _ _ _ _ _ _ _ _ _ _ _
   | exact ih1 _ _ _ _ _ _ _ _ _ _ _ _
   | exact node_May.mono _ _ _ _
   | exact LeO.none _
   | refine LeO.ite ?_ ?_
   | refine LeO.bind ?_ (fun _ => ?_)
  ·intro y0 y1 y2 y3 y4 y5 y6 y7 y8 y9 y10 y11
   unfold node_Write.l1
   repeat' first
   | (with_reducible exact ih0 _ _ _ _ _ _ _ _ _ _ _ _)
   | (with_reducible exact ih1 _ _ _ _ _ _ _ _ _ _ _ _)
   | (with_reducible exact node_May.mono _ _ _ _)
   | (with_reducible exact LeO.refl _)
   | (with_reducible exact LeO.none _)
   | (with_reducible refine LeO.ite ?_ ?_)
   | (with_reducible refine LeO.bind ?_ (fun _ => ?_))
   | exact ih0 _ _ _ _ _ _ _ _ _ _ _ _
   | exact ih1 _ _ _ _ _ _ _ _ _ _ _ _
   | exact node_May.mono _ _ _ _
   | exact LeO.none _
   | refine LeO.ite ?_ ?_
   | refine LeO.bind ?_ (fun _ => ?_)
theorem node_Write.mono : ∀ a0 a1 a2 a3 a4 k, LeO (node_Write.f k a0 a1 a2 a3 a4) (node_Write.f (k + 1) a0 a1 a2 a3 a4) := by
 intro a0 a1 a2 a3 a4 k
 obtain ⟨ih0, ih1⟩ := node_Write.mono_l k
 unfold node_Write.f
 repeat' first
   | (with_reducible exact ih0 _ _ _ _ _ _ _ _ _ _ _ _)
   | (with_reducible exact ih1 _ _ _ _ _ _ _ _ _ _ _ _)
   | (with_reducible exact node_May.mono _ _ _ _)
   | (with_reducible exact LeO.refl _)
   | (with_reducible exact LeO.none _)
   | (with_reducible refine LeO.ite ?_ ?_)
   | (with_reducible refine LeO.bind ?_ (fun _ => ?_))
   | exact ih0 _ _ _ _ _ _ _ _ _ _ _ _
   | exact ih1 _ _ _ _ _ _ _ _ _ _ _ _
   | exact node_May.mono _ _ _ _
   | exact LeO.none _
   | refine LeO.ite ?_ ?_
   | refine LeO.bind ?_ (fun _ => ?_)
def node_Write.T8 : Bool × List (List Nat × List Nat) := (true, [([], []), ([], []), ([1], [1]), ([0, 2], [0, 2]), ([], []), ([4], [4]), ([5], [5]), ([3, 6, 3], [3, 6]), ([], []), ([8], [8]), ([7, 9, 7], [7, 9]), ([10, 10, 0, 1, 2, 3, 4, 5, 6, 7, 8, 9, 10], [0, 10])])
def node_Write.B8 : List Nat := [0, 0, 2, 7, 0, 16, 48, 127, 0, 256, 1023, 2047]
theorem node_Write.tab8 : rtab .any (opsOf Try.f13 8) = node_Write.T8 := by kernel_rfl
theorem node_Write.bits8 : waitsOk node_Write.T8.2 node_Write.B8 = true := by kernel_rfl
def node_Write.T13 : Bool × List (List Nat × List Nat) := (true, [([], []), ([], []), ([1], [1]), ([0, 2], [0, 2]), ([], []), ([4], [4]), ([3, 5, 3], [3, 5]), ([6, 6, 0, 1, 2, 3, 4, 5, 6], [0, 6])])
def node_Write.B13 : List Nat := [0, 0, 2, 7, 0, 16, 63, 127]
theorem node_Write.tab13 : rtab .any (opsOf Try.f13 13) = node_Write.T13 := by kernel_rfl
theorem node_Write.bits13 : waitsOk node_Write.T13.2 node_Write.B13 = true := by kernel_rfl
set_option maxHeartbeats 8000000 in
set_option maxRecDepth 100000 in
theorem node_Write.calls (k : Nat) (a0_0 : Int) (A0_1 : Option Addr) (c0_1 : Nat) (l0_1 : List (S52)) (A0_2 : Option Addr) (c0_2 : Nat) (l0_2 : List (S57)) (a1 : Int) (a2 : Int) (r1 : List Int) (r2 : Int) (w : World) (hr0_1 : Kd.C k52 w A0_1 l0_1.length l0_1) (hc0_1 : l0_1.length ≤ c0_1) (hr0_2 : Kd.C k57 w A0_2 l0_2.length l0_2) (hc0_2 : l0_2.length ≤ c0_2) (h : node_Write.f k a0_0 l0_1 l0_2 a1 a2 = some (r1, r2)) :
  Calls Try.prog 13 #[.agg #[.int .i64 a0_0, .slice A0_1 l0_1.length c0_1, .slice A0_2 l0_2.length c0_2], .int .i64 a1, .int .i64 a2] w fun e w' => ∃ v0_ : Value, e = .returned (.tuple #[v0_, .int .i64 r2]) ∧ Kd.R (Kd.int .u8) 5 w' w.heap.size (fun _ => True) v0_ r1 ∧ Below w.heap.size w w' := by
 have hu25 := Try.underlying25
 have hu62 := Try.underlying62
 have hu52 := Try.underlying52
 have hu35 := Try.underlying35
 have hu57 := Try.underlying57
 have HR0_1 := Aside0.mk hr0_1
 have HC0_1 := Aside0.mk hc0_1
 clear hr0_1 hc0_1
 have HR0_2 := Aside0.mk hr0_2
 have HC0_2 := Aside0.mk hc0_2
 clear hr0_2 hc0_2
 have HB := Aside0.mk (Below.refl w.heap.size w)
 have H : ((node_May.f k a0_0 l0_1 l0_2).bind fun t146 => (if t146 = true then (node_Write.l0 k ([] : List Int) l0_1 (l0_1.length : Int) 0 a0_0 l0_1 l0_2 3 a1 (wrap64 ((l0_1.length : Int) + (l0_2.length : Int))) a0_0 a2) else (some (([] : List Int), 1)))) = some (r1, r2) := h
 clear h
 replace H := Option.bind_eq_some_iff.mp H
 obtain ⟨t146, A40, H⟩ := H
 replace H : (if t146 = true then (node_Write.l0 k ([] : List Int) l0_1 (l0_1.length : Int) 0 a0_0 l0_1 l0_2 3 a1 (wrap64 ((l0_1.length : Int) + (l0_2.length : Int))) a0_0 a2) else (some (([] : List Int), 1))) = some (r1, r2) := H
 have A4 := Aside0.mk A40
 clear A40
 by_cases c5 : t146 = true
 ·subst c5
  have H1 : (node_Write.l0 k ([] : List Int) l0_1 (l0_1.length : Int) 0 a0_0 l0_1 l0_2 3 a1 (wrap64 ((l0_1.length : Int) + (l0_2.length : Int))) a0_0 a2) = some (r1, r2) := by rw [if_pos rfl] at H; exact H
  clear H
  have H := H1
  clear H1
  have H' := Aside0.mk H
  clear H
  go_enter Try.func13, Try.ntmps13
  go_wp2_with (first | ((with_reducible refine gate_dst (N := 3) rfl ?_); refine box_event ?hg (N := 3) ?hd (cs := #[.int .i64 a0_0, .slice A0_1 l0_1.length c0_1, .slice A0_2 l0_2.length c0_2]) (t := 25) ?hr ?_; (case hd => rfl); (case hg => rfl); (case hr => first | (go_simp; done) | (go_simp; rfl)); intro gb145 hg w6 hbox hb; have n0_ := Aside0.mk (below_step q0_ hb); have n1_ := Aside0.mk (hbox); have n2_ := Aside0.mk ((by rw [hg]; exact (below_size q0_) : w.heap.size ≤ gb145)); have n3_ := Aside0.mk ((by rw [hg]; exact (below_size q0_) : w.heap.size ≤ gb145)); clear HB; have HB := n0_; have BK145 := n1_; have GW145 := n2_; have GE145 := n3_; clear n0_ n1_ n2_ n3_; clear hb hbox hg; have hcz7_0 : w6.cell? ⟨gb145, 0, none⟩ = some (.int .i64 a0_0) := (blk_cell BK145.out 0).trans rfl; have hcz7_1 : w6.cell? ⟨gb145, 1, none⟩ = some (.slice A0_1 l0_1.length c0_1) := (blk_cell BK145.out 1).trans rfl; have hcz7_2 : w6.cell? ⟨gb145, 2, none⟩ = some (.slice A0_2 l0_2.length c0_2) := (blk_cell BK145.out 2).trans rfl; have hfz7_0 := blk_frozen BK145.out 0; have hfz7_1 := blk_frozen BK145.out 1; have hfz7_2 := blk_frozen BK145.out 2) | ((with_reducible refine gate_callee (f := 11) rfl ?_); refine goesL_ (some 15) rfl rfl Try.func11 q8_ rfl #[.agg #[.int .i64 a0_0, .slice A0_1 l0_1.length c0_1, .slice A0_2 l0_2.length c0_2]] rfl q1_ ?_; (with_reducible refine (node_May.calls k a0_0 _ _ l0_1 _ _ l0_2 true _ ?side1 ?side2 ?side3 ?side4 A4.out).mono ?_); (case side1 => repeat (first | exact (Kd.C_below HR0_1.out HB.out) | (with_reducible refine Kd.C_alloc ?_ _) | (with_reducible refine Kd.C_drewN ?_ _) | (with_reducible refine Kd.C_drew ?_))); (case side2 => exact HC0_1.out); (case side3 => repeat (first | exact (Kd.C_below HR0_2.out HB.out) | (with_reducible refine Kd.C_alloc ?_ _) | (with_reducible refine Kd.C_drewN ?_ _) | (with_reducible refine Kd.C_drew ?_))); (case side4 => exact HC0_2.out); rintro e w8 ⟨rfl, hb⟩; refine ⟨_, rfl, ?_⟩; have n0_ := Aside0.mk (blk_below (g := gb145) (o := .cells #[.int .i64 a0_0, .slice A0_1 l0_1.length c0_1, .slice A0_2 l0_2.length c0_2] 25 (0, 0)) q47_ hb); have n1_ := Aside0.mk (below_step q141_ hb); clear BK145; clear HB; have BK145 := n0_; have HB := n1_; clear n0_ n1_; (try clear hb); (try clear hb2); (try clear hk); (try clear hi); have hcz9_0 : w8.cell? ⟨gb145, 0, none⟩ = some (.int .i64 a0_0) := (blk_cell BK145.out 0).trans rfl; have hcz9_1 : w8.cell? ⟨gb145, 1, none⟩ = some (.slice A0_1 l0_1.length c0_1) := (blk_cell BK145.out 1).trans rfl; have hcz9_2 : w8.cell? ⟨gb145, 2, none⟩ = some (.slice A0_2 l0_2.length c0_2) := (blk_cell BK145.out 2).trans rfl; have hfz9_0 := blk_frozen BK145.out 0; have hfz9_1 := blk_frozen BK145.out 1; have hfz9_2 := blk_frozen BK145.out 2) | ((with_reducible refine gate_dst (N := 8) rfl ?_); refine box_event ?hg (N := 8) ?hd (cs := #[.int .i64 0, .int .i64 0, .int .i64 0, .int .i64 0, .int .i64 0]) (t := 62) ?hr ?_; (case hd => rfl); (case hg => rfl); (case hr => first | (go_simp; done) | (go_simp; rfl)); intro gb147 hg w10 hbox hb; have n0_ := Aside0.mk (blk_below (g := gb145) (o := .cells #[.int .i64 a0_0, .slice A0_1 l0_1.length c0_1, .slice A0_2 l0_2.length c0_2] 25 (0, 0)) q47_ hb); have n1_ := Aside0.mk (below_step q141_ hb); have n2_ := Aside0.mk (hbox); have n3_ := Aside0.mk ((by rw [hg]; exact (below_size q141_) : w.heap.size ≤ gb147)); have n4_ := Aside0.mk ((by rw [hg]; exact (below_size q141_) : w.heap.size ≤ gb147)); have n5_ := Aside0.mk ((by rw [hg]; exact Nat.ne_of_lt (blk_lt (g := gb145) (o := .cells #[.int .i64 a0_0, .slice A0_1 l0_1.length c0_1, .slice A0_2 l0_2.length c0_2] 25 (0, 0)) q47_) : gb145 ≠ gb147)); have n6_ := Aside0.mk ((by rw [hg]; exact Nat.ne_of_gt (blk_lt (g := gb145) (o := .cells #[.int .i64 a0_0, .slice A0_1 l0_1.length c0_1, .slice A0_2 l0_2.length c0_2] 25 (0, 0)) q47_) : gb147 ≠ gb145)); clear BK145; clear HB; have BK145 := n0_; have HB := n1_; have BK147 := n2_; have GW147 := n3_; have GE147 := n4_; have NB145_147 := n5_; have NB147_145 := n6_; clear n0_ n1_ n2_ n3_ n4_ n5_ n6_; clear hb hbox hg; have hnb11 := NB147_145.out; have hnc11 := NB145_147.out; have hcz12_0 : w10.cell? ⟨gb147, 0, none⟩ = some (.int .i64 0) := (blk_cell BK147.out 0).trans rfl; have hcz12_1 : w10.cell? ⟨gb147, 1, none⟩ = some (.int .i64 0) := (blk_cell BK147.out 1).trans rfl; have hcz12_2 : w10.cell? ⟨gb147, 2, none⟩ = some (.int .i64 0) := (blk_cell BK147.out 2).trans rfl; have hcz12_3 : w10.cell? ⟨gb147, 3, none⟩ = some (.int .i64 0) := (blk_cell BK147.out 3).trans rfl; have hcz12_4 : w10.cell? ⟨gb147, 4, none⟩ = some (.int .i64 0) := (blk_cell BK147.out 4).trans rfl; have hfz12_0 := blk_frozen BK147.out 0; have hfz12_1 := blk_frozen BK147.out 1; have hfz12_2 := blk_frozen BK147.out 2; have hfz12_3 := blk_frozen BK147.out 3; have hfz12_4 := blk_frozen BK147.out 4; have hcz13_0 : w10.cell? ⟨gb145, 0, none⟩ = some (.int .i64 a0_0) := (blk_cell BK145.out 0).trans rfl; have hcz13_1 : w10.cell? ⟨gb145, 1, none⟩ = some (.slice A0_1 l0_1.length c0_1) := (blk_cell BK145.out 1).trans rfl; have hcz13_2 : w10.cell? ⟨gb145, 2, none⟩ = some (.slice A0_2 l0_2.length c0_2) := (blk_cell BK145.out 2).trans rfl; have hfz13_0 := blk_frozen BK145.out 0; have hfz13_1 := blk_frozen BK145.out 1; have hfz13_2 := blk_frozen BK145.out 2))
  go_loopg [9, 32] k (fun kq v9 v32 w' => ∃ (x9_1 : List Int) (x32_1 : Int), v32 = .int .i64 x32_1 ∧ Aside0 (node_Write.l0 kq x9_1 l0_1 (l0_1.length : Int) x32_1 a0_0 l0_1 l0_2 3 a1 (wrap64 ((l0_1.length : Int) + (l0_2.length : Int))) a0_0 a2 = some (r1, r2)) ∧ Aside0 (kq ≤ k) ∧ Aside0 (Kd.R (Kd.int .u8) 5 w' w.heap.size (fun _ => True) v9 x9_1) ∧ Aside0 (w'.heap[gb145]? = some (.cells #[.int .i64 a0_0, (.slice A0_1 l0_1.length c0_1), (.slice A0_2 l0_2.length c0_2)] 25 (0, 0))) ∧ Aside0 (w'.heap[gb147]? = some (.cells #[.int .i64 3, .int .i64 a1, .int .i64 (wrap64 ((l0_1.length : Int) + (l0_2.length : Int))), .int .i64 a0_0, .int .i64 a2] 62 (0, 0))) ∧ Aside0 (Below w.heap.size w w'))
  case atStart => exact ⟨(([] : List Int)), (0), q14_, H', ⟨Nat.le_refl _⟩, ⟨q214_⟩, ⟨by (with_reducible repeat (first | refine blk_drewN ?_ _ | refine blk_drew ?_ | refine blk_alloc ?_ _)); refine blk_far ?_ NB145_147.out _; (with_reducible repeat (first | refine blk_drewN ?_ _ | refine blk_drew ?_ | refine blk_alloc ?_ _)); refine blk_far ?_ NB145_147.out _; (with_reducible repeat (first | refine blk_drewN ?_ _ | refine blk_drew ?_ | refine blk_alloc ?_ _)); refine blk_far ?_ NB145_147.out _; (with_reducible repeat (first | refine blk_drewN ?_ _ | refine blk_drew ?_ | refine blk_alloc ?_ _)); refine blk_far ?_ NB145_147.out _; (with_reducible repeat (first | refine blk_drewN ?_ _ | refine blk_drew ?_ | refine blk_alloc ?_ _)); refine blk_far ?_ NB145_147.out _; (with_reducible repeat (first | refine blk_drewN ?_ _ | refine blk_drew ?_ | refine blk_alloc ?_ _)); exact BK145.out⟩, ⟨by (with_reducible repeat (first | refine blk_drewN ?_ _ | refine blk_drew ?_ | refine blk_alloc ?_ _)); refine blk_put (cs := #[.int .i64 3, .int .i64 a1, .int .i64 (wrap64 ((l0_1.length : Int) + (l0_2.length : Int))), .int .i64 a0_0, .int .i64 0]) ?_ 4 _ rfl; (with_reducible repeat (first | refine blk_drewN ?_ _ | refine blk_drew ?_ | refine blk_alloc ?_ _)); refine blk_put (cs := #[.int .i64 3, .int .i64 a1, .int .i64 (wrap64 ((l0_1.length : Int) + (l0_2.length : Int))), .int .i64 0, .int .i64 0]) ?_ 3 _ rfl; (with_reducible repeat (first | refine blk_drewN ?_ _ | refine blk_drew ?_ | refine blk_alloc ?_ _)); refine blk_put (cs := #[.int .i64 3, .int .i64 a1, .int .i64 0, .int .i64 0, .int .i64 0]) ?_ 2 _ rfl; (with_reducible repeat (first | refine blk_drewN ?_ _ | refine blk_drew ?_ | refine blk_alloc ?_ _)); refine blk_put (cs := #[.int .i64 3, .int .i64 0, .int .i64 0, .int .i64 0, .int .i64 0]) ?_ 1 _ rfl; (with_reducible repeat (first | refine blk_drewN ?_ _ | refine blk_drew ?_ | refine blk_alloc ?_ _)); refine blk_put (cs := #[.int .i64 0, .int .i64 0, .int .i64 0, .int .i64 0, .int .i64 0]) ?_ 0 _ rfl; (with_reducible repeat (first | refine blk_drewN ?_ _ | refine blk_drew ?_ | refine blk_alloc ?_ _)); exact BK147.out⟩, ⟨q51_⟩⟩
  case round =>
   clear H'
   try clear c1
   try clear p2
   try clear c5
   try clear p6
   try clear c11
   try clear c13
   try clear hcz12_0
   try clear hcz12_1
   try clear hcz12_2
   try clear hcz12_3
   try clear hcz12_4
   try clear hcz13_0
   try clear hcz13_1
   try clear hcz13_2
   try clear hcz7_0
   try clear hcz7_1
   try clear hcz7_2
   try clear hcz9_0
   try clear hcz9_1
   try clear hcz9_2
   try clear hfz12_0
   try clear hfz12_1
   try clear hfz12_2
   try clear hfz12_3
   try clear hfz12_4
   try clear hfz13_0
   try clear hfz13_1
   try clear hfz13_2
   try clear hfz7_0
   try clear hfz7_1
   try clear hfz7_2
   try clear hfz9_0
   try clear hfz9_1
   try clear hfz9_2
   obtain ⟨x9_1, x32_1, rfl, HA, HK1, HO_9, BK145, BK147, HB⟩ := hrel
   cases gk with
   | zero => exact absurd (show none = some _ from HA.out) (by simp)
   | succ k1 =>
    have H := HA.out
    clear HA
    simp only [node_Write.l0] at H
    by_cases c14 : x32_1 < (l0_1.length : Int)
    ·rw [if_pos c14] at H
     have c14b0 : decide (x32_1 < (l0_1.length : Int)) = true := decide_eq_true c14
     clear c14
     by_cases c15 : 0 ≤ x32_1
     ·rw [if_pos c15] at H
      have c15b0 : decide (0 ≤ x32_1) = true := decide_eq_true c15
      clear c15
      by_cases c16 : x32_1 < (l0_1.length : Int)
      ·rw [if_pos c16] at H
       have c16b0 : decide (x32_1 < (l0_1.length : Int)) = true := decide_eq_true c16
       clear c16
       replace H := Option.bind_eq_some_iff.mp H
       obtain ⟨t150, A170, H⟩ := H
       replace H : ((num_Put.f t150 (((rd_T52 l0_1 x32_1).f1).length : Int) 1).bind fun t153 => (if t153.length + ((rd_T52 l0_1 x32_1).f1).length < 140737488355328 then (node_Write.l0 k1 (t153 ++ ((rd_T52 l0_1 x32_1).f1)) l0_1 (l0_1.length : Int) (wrap64 (x32_1 + 1)) a0_0 l0_1 l0_2 3 a1 (wrap64 ((l0_1.length : Int) + (l0_2.length : Int))) a0_0 a2) else (none))) = some (r1, r2) := H
       have A17 := Aside0.mk A170
       clear A170
       replace H := Option.bind_eq_some_iff.mp H
       obtain ⟨t153, A180, H⟩ := H
       replace H : (if t153.length + ((rd_T52 l0_1 x32_1).f1).length < 140737488355328 then (node_Write.l0 k1 (t153 ++ ((rd_T52 l0_1 x32_1).f1)) l0_1 (l0_1.length : Int) (wrap64 (x32_1 + 1)) a0_0 l0_1 l0_2 3 a1 (wrap64 ((l0_1.length : Int) + (l0_2.length : Int))) a0_0 a2) else (none)) = some (r1, r2) := H
       have A18 := Aside0.mk A180
       clear A180
       by_cases c19 : t153.length + ((rd_T52 l0_1 x32_1).f1).length < 140737488355328
       ·rw [if_pos c19] at H
        have LMc19 := Aside0.mk c19
        clear c19
        obtain ⟨y156, hy156⟩ : ∃ y_ : List Int, y_ = (t153 ++ ((rd_T52 l0_1 x32_1).f1)) := ⟨_, rfl⟩
        replace H : (node_Write.l0 k1 y156 l0_1 (l0_1.length : Int) (wrap64 (x32_1 + 1)) a0_0 l0_1 l0_2 3 a1 (wrap64 ((l0_1.length : Int) + (l0_2.length : Int))) a0_0 a2) = some (r1, r2) := by first | (rw [hy156]; with_reducible exact H) | (have H2_ := (Option.bind_some _ _).symm.trans H; rw [hy156]; with_reducible exact H2_) | (have H2_ := (Option.bind_some _ _).symm.trans H; with_reducible exact H2_) | with_reducible exact H | (rw [hy156]; exact H) | exact H
        have Ny156 := Aside0.mk hy156
        clear hy156
        have H' := Aside0.mk H
        clear H
        have p148 : 0 ≤ (x32_1 : Int) := of_decide_eq_true q4_
        have q148 : x32_1 < (l0_1.length : Int) := of_decide_eq_true q4_
        obtain ⟨ad148, A148_3, c148_3, e148, hx148_0, hx148_1, hx148_2, hx148_3, hl148_3, hi148_3⟩ := at_T52 HR0_1.out x32_1 p148 q148
        cases e148
        replace hx148_0 := (HB.out.cell (World.block_lt_of_cell? w _ hx148_0)).trans hx148_0
        replace hx148_1 := (HB.out.cell (World.block_lt_of_cell? w _ hx148_1)).trans hx148_1
        replace hx148_2 := (HB.out.cell (World.block_lt_of_cell? w _ hx148_2)).trans hx148_2
        replace hx148_3 := (HB.out.cell (World.block_lt_of_cell? w _ hx148_3)).trans hx148_3
        have HR148_3 := Aside0.mk hi148_3
        have HC148_3 := Aside0.mk hl148_3
        clear hi148_3 hl148_3
        replace p148 := eq_true p148
        replace q148 := eq_true q148
        try go_wp2_with (first | ((with_reducible refine gate_dst (N := 11) rfl ?_); refine box_event ?hg (N := 11) ?hd (cs := #[.int .i64 0, .int .i64 0, .int .i64 0, .slice none 0 0]) (t := 52) ?hr ?_; (case hd => rfl); (case hg => rfl); (case hr => first | (go_simp; done) | (go_simp; rfl)); intro gb149 hg w20 hbox hb; have n0_ := Aside0.mk (Kd.R_below q42_ hb); have n1_ := Aside0.mk (blk_below (g := gb145) (o := .cells #[.int .i64 a0_0, .slice (some ad148) l0_1.length c0_1, .slice A0_2 l0_2.length c0_2] 25 (0, 0)) q47_ hb); have n2_ := Aside0.mk (blk_below (g := gb147) (o := .cells #[.int .i64 3, .int .i64 a1, .int .i64 (wrap64 ((l0_1.length : Int) + (l0_2.length : Int))), .int .i64 a0_0, .int .i64 a2] 62 (0, 0)) q71_ hb); have n3_ := Aside0.mk (below_step q51_ hb); have n4_ := Aside0.mk (hbox); have n5_ := Aside0.mk ((by rw [hg]; exact (below_size q51_) : w.heap.size ≤ gb149)); have n6_ := Aside0.mk ((by rw [hg]; exact (below_size q51_) : w.heap.size ≤ gb149)); have n7_ := Aside0.mk ((by rw [hg]; exact Nat.ne_of_lt (blk_lt (g := gb145) (o := .cells #[.int .i64 a0_0, .slice (some ad148) l0_1.length c0_1, .slice A0_2 l0_2.length c0_2] 25 (0, 0)) q47_) : gb145 ≠ gb149)); have n8_ := Aside0.mk ((by rw [hg]; exact Nat.ne_of_gt (blk_lt (g := gb145) (o := .cells #[.int .i64 a0_0, .slice (some ad148) l0_1.length c0_1, .slice A0_2 l0_2.length c0_2] 25 (0, 0)) q47_) : gb149 ≠ gb145)); have n9_ := Aside0.mk ((by rw [hg]; exact Nat.ne_of_lt (blk_lt (g := gb147) (o := .cells #[.int .i64 3, .int .i64 a1, .int .i64 (wrap64 ((l0_1.length : Int) + (l0_2.length : Int))), .int .i64 a0_0, .int .i64 a2] 62 (0, 0)) q71_) : gb147 ≠ gb149)); have n10_ := Aside0.mk ((by rw [hg]; exact Nat.ne_of_gt (blk_lt (g := gb147) (o := .cells #[.int .i64 3, .int .i64 a1, .int .i64 (wrap64 ((l0_1.length : Int) + (l0_2.length : Int))), .int .i64 a0_0, .int .i64 a2] 62 (0, 0)) q71_) : gb149 ≠ gb147)); clear HO_9; clear BK145; clear BK147; clear HB; have HO_9 := n0_; have BK145 := n1_; have BK147 := n2_; have HB := n3_; have BK149 := n4_; have GW149 := n5_; have GE149 := n6_; have NB145_149 := n7_; have NB149_145 := n8_; have NB147_149 := n9_; have NB149_147 := n10_; clear n0_ n1_ n2_ n3_ n4_ n5_ n6_ n7_ n8_ n9_ n10_; clear hb hbox hg; have hnb21 := NB149_145.out; have hnc21 := NB145_149.out; have hnb22 := NB149_147.out; have hnc22 := NB147_149.out; have hcz23_0 : w20.cell? ⟨gb149, 0, none⟩ = some (.int .i64 0) := (blk_cell BK149.out 0).trans rfl; have hcz23_1 : w20.cell? ⟨gb149, 1, none⟩ = some (.int .i64 0) := (blk_cell BK149.out 1).trans rfl; have hcz23_2 : w20.cell? ⟨gb149, 2, none⟩ = some (.int .i64 0) := (blk_cell BK149.out 2).trans rfl; have hcz23_3 : w20.cell? ⟨gb149, 3, none⟩ = some (.slice none 0 0) := (blk_cell BK149.out 3).trans rfl; have hfz23_0 := blk_frozen BK149.out 0; have hfz23_1 := blk_frozen BK149.out 1; have hfz23_2 := blk_frozen BK149.out 2; have hfz23_3 := blk_frozen BK149.out 3))
        have n0_ : Aside0 (Kd.R (Kd.int .u8) 5 ((((w20.setCell ⟨gb149, 0, none⟩ (.int .i64 ((rd_T52 l0_1 x32_1).f0.f0))).setCell ⟨gb149, 1, none⟩ (.int .i64 ((rd_T52 l0_1 x32_1).f0.f1))).setCell ⟨gb149, 2, none⟩ (.int .i64 ((rd_T52 l0_1 x32_1).f0.f2))).setCell ⟨gb149, 3, none⟩ (.slice A148_3 ((rd_T52 l0_1 x32_1).f1).length c148_3)) w.heap.size (fun _ => True) u9 x9_1) := ⟨by (with_reducible repeat (first | apply Kd.R_alloc | apply Kd.R_drewN | apply Kd.R_drew)); exact Kd.R_mono (Kd.R_far (p := ⟨gb149, 3, none⟩) (Kd.R_far (p := ⟨gb149, 2, none⟩) (Kd.R_far (p := ⟨gb149, 1, none⟩) (Kd.R_far (p := ⟨gb149, 0, none⟩) (Kd.R_types HO_9.out BK149.out q210_) (fun _ hk => hk.2) (.int .i64 ((rd_T52 l0_1 x32_1).f0.f0))) (fun _ hk => hk.2) (.int .i64 ((rd_T52 l0_1 x32_1).f0.f1))) (fun _ hk => hk.2) (.int .i64 ((rd_T52 l0_1 x32_1).f0.f2))) (fun _ hk => hk.2) (.slice A148_3 ((rd_T52 l0_1 x32_1).f1).length c148_3)) (fun _ hk => trivial)⟩
        have n1_ : Aside0 (((((w20.setCell ⟨gb149, 0, none⟩ (.int .i64 ((rd_T52 l0_1 x32_1).f0.f0))).setCell ⟨gb149, 1, none⟩ (.int .i64 ((rd_T52 l0_1 x32_1).f0.f1))).setCell ⟨gb149, 2, none⟩ (.int .i64 ((rd_T52 l0_1 x32_1).f0.f2))).setCell ⟨gb149, 3, none⟩ (.slice A148_3 ((rd_T52 l0_1 x32_1).f1).length c148_3)).heap[gb145]? = some (.cells #[.int .i64 a0_0, .slice (some ad148) l0_1.length c0_1, .slice A0_2 l0_2.length c0_2] 25 (0, 0))) := ⟨by (with_reducible repeat (first | refine blk_drewN ?_ _ | refine blk_drew ?_ | refine blk_alloc ?_ _)); refine blk_far ?_ NB145_149.out _; (with_reducible repeat (first | refine blk_drewN ?_ _ | refine blk_drew ?_ | refine blk_alloc ?_ _)); refine blk_far ?_ NB145_149.out _; (with_reducible repeat (first | refine blk_drewN ?_ _ | refine blk_drew ?_ | refine blk_alloc ?_ _)); refine blk_far ?_ NB145_149.out _; (with_reducible repeat (first | refine blk_drewN ?_ _ | refine blk_drew ?_ | refine blk_alloc ?_ _)); refine blk_far ?_ NB145_149.out _; (with_reducible repeat (first | refine blk_drewN ?_ _ | refine blk_drew ?_ | refine blk_alloc ?_ _)); exact BK145.out⟩
        have n2_ : Aside0 (((((w20.setCell ⟨gb149, 0, none⟩ (.int .i64 ((rd_T52 l0_1 x32_1).f0.f0))).setCell ⟨gb149, 1, none⟩ (.int .i64 ((rd_T52 l0_1 x32_1).f0.f1))).setCell ⟨gb149, 2, none⟩ (.int .i64 ((rd_T52 l0_1 x32_1).f0.f2))).setCell ⟨gb149, 3, none⟩ (.slice A148_3 ((rd_T52 l0_1 x32_1).f1).length c148_3)).heap[gb147]? = some (.cells #[.int .i64 3, .int .i64 a1, .int .i64 (wrap64 ((l0_1.length : Int) + (l0_2.length : Int))), .int .i64 a0_0, .int .i64 a2] 62 (0, 0))) := ⟨by (with_reducible repeat (first | refine blk_drewN ?_ _ | refine blk_drew ?_ | refine blk_alloc ?_ _)); refine blk_far ?_ NB147_149.out _; (with_reducible repeat (first | refine blk_drewN ?_ _ | refine blk_drew ?_ | refine blk_alloc ?_ _)); refine blk_far ?_ NB147_149.out _; (with_reducible repeat (first | refine blk_drewN ?_ _ | refine blk_drew ?_ | refine blk_alloc ?_ _)); refine blk_far ?_ NB147_149.out _; (with_reducible repeat (first | refine blk_drewN ?_ _ | refine blk_drew ?_ | refine blk_alloc ?_ _)); refine blk_far ?_ NB147_149.out _; (with_reducible repeat (first | refine blk_drewN ?_ _ | refine blk_drew ?_ | refine blk_alloc ?_ _)); exact BK147.out⟩
        have n3_ : Aside0 (((((w20.setCell ⟨gb149, 0, none⟩ (.int .i64 ((rd_T52 l0_1 x32_1).f0.f0))).setCell ⟨gb149, 1, none⟩ (.int .i64 ((rd_T52 l0_1 x32_1).f0.f1))).setCell ⟨gb149, 2, none⟩ (.int .i64 ((rd_T52 l0_1 x32_1).f0.f2))).setCell ⟨gb149, 3, none⟩ (.slice A148_3 ((rd_T52 l0_1 x32_1).f1).length c148_3)).heap[gb149]? = some (.cells #[.int .i64 ((rd_T52 l0_1 x32_1).f0.f0), .int .i64 ((rd_T52 l0_1 x32_1).f0.f1), .int .i64 ((rd_T52 l0_1 x32_1).f0.f2), .slice A148_3 ((rd_T52 l0_1 x32_1).f1).length c148_3] 52 (0, 0))) := ⟨by (with_reducible repeat (first | refine blk_drewN ?_ _ | refine blk_drew ?_ | refine blk_alloc ?_ _)); refine blk_put (cs := #[.int .i64 ((rd_T52 l0_1 x32_1).f0.f0), .int .i64 ((rd_T52 l0_1 x32_1).f0.f1), .int .i64 ((rd_T52 l0_1 x32_1).f0.f2), .slice none 0 0]) ?_ 3 _ rfl; (with_reducible repeat (first | refine blk_drewN ?_ _ | refine blk_drew ?_ | refine blk_alloc ?_ _)); refine blk_put (cs := #[.int .i64 ((rd_T52 l0_1 x32_1).f0.f0), .int .i64 ((rd_T52 l0_1 x32_1).f0.f1), .int .i64 0, .slice none 0 0]) ?_ 2 _ rfl; (with_reducible repeat (first | refine blk_drewN ?_ _ | refine blk_drew ?_ | refine blk_alloc ?_ _)); refine blk_put (cs := #[.int .i64 ((rd_T52 l0_1 x32_1).f0.f0), .int .i64 0, .int .i64 0, .slice none 0 0]) ?_ 1 _ rfl; (with_reducible repeat (first | refine blk_drewN ?_ _ | refine blk_drew ?_ | refine blk_alloc ?_ _)); refine blk_put (cs := #[.int .i64 0, .int .i64 0, .int .i64 0, .slice none 0 0]) ?_ 0 _ rfl; (with_reducible repeat (first | refine blk_drewN ?_ _ | refine blk_drew ?_ | refine blk_alloc ?_ _)); exact BK149.out⟩
        have n4_ : Aside0 (Below w.heap.size w ((((w20.setCell ⟨gb149, 0, none⟩ (.int .i64 ((rd_T52 l0_1 x32_1).f0.f0))).setCell ⟨gb149, 1, none⟩ (.int .i64 ((rd_T52 l0_1 x32_1).f0.f1))).setCell ⟨gb149, 2, none⟩ (.int .i64 ((rd_T52 l0_1 x32_1).f0.f2))).setCell ⟨gb149, 3, none⟩ (.slice A148_3 ((rd_T52 l0_1 x32_1).f1).length c148_3))) := ⟨q78_⟩
        (try clear HO_9)
        (try clear BK145)
        (try clear BK147)
        (try clear BK149)
        (try clear HB)
        generalize ((((w20.setCell ⟨gb149, 0, none⟩ (.int .i64 ((rd_T52 l0_1 x32_1).f0.f0))).setCell ⟨gb149, 1, none⟩ (.int .i64 ((rd_T52 l0_1 x32_1).f0.f1))).setCell ⟨gb149, 2, none⟩ (.int .i64 ((rd_T52 l0_1 x32_1).f0.f2))).setCell ⟨gb149, 3, none⟩ (.slice A148_3 ((rd_T52 l0_1 x32_1).f1).length c148_3)) = w24 at n0_ n1_ n2_ n3_ n4_ ⊢
        have HO_9 := n0_
        have BK145 := n1_
        have BK147 := n2_
        have BK149 := n3_
        have HB := n4_
        clear n0_ n1_ n2_ n3_ n4_
        have n0_ := Aside0.mk (Kd.R_drew HO_9.out)
        have n1_ := Aside0.mk (blk_drew BK145.out)
        have n2_ := Aside0.mk (blk_drew BK147.out)
        have n3_ := Aside0.mk (blk_drew BK149.out)
        have n4_ := Aside0.mk (below_drew1 HB.out)
        clear HO_9
        clear BK145
        clear BK147
        clear BK149
        clear HB
        have HO_9 := n0_
        have BK145 := n1_
        have BK147 := n2_
        have BK149 := n3_
        have HB := n4_
        clear n0_ n1_ n2_ n3_ n4_
        obtain ⟨Ao26, co26, eo26⟩ := Kd.R_slice HO_9.out
        (first | subst eo26 | (injection eo26 with f1_ f2_ f3_; have f4_ := f1_.symm; have f5_ := f3_.symm; clear f1_ f2_ f3_; subst f4_; subst f5_))
        refine start_ (n := 12) (S := fun w' => w'.cell? ⟨gb149, 0, none⟩ = some (.int .i64 ((rd_T52 l0_1 x32_1).f0.f0)) ∧ w'.cell? ⟨gb149, 1, none⟩ = some (.int .i64 ((rd_T52 l0_1 x32_1).f0.f1)) ∧ w'.cell? ⟨gb149, 2, none⟩ = some (.int .i64 ((rd_T52 l0_1 x32_1).f0.f2)) ∧ w'.cell? ⟨gb149, 3, none⟩ = some (.slice A148_3 ((rd_T52 l0_1 x32_1).f1).length c148_3)) (ds := []) (bl_ 12 0) q8_ rfl rfl ⟨(blk_cell BK149.out 0).trans rfl, (blk_cell BK149.out 1).trans rfl, (blk_cell BK149.out 2).trans rfl, (blk_cell BK149.out 3).trans rfl⟩ (fun hHeld => ?_); refine with_tabW node_Write.tab8 node_Write.bits8 (fun HT_ HW_ => ?_)
        generalize w24.drew = w25 at HO_9 BK145 BK147 BK149 HB hHeld ⊢
        refine pure_ (i := 0) (N := some 36) (v := ?_) (a' := ?_) (bl_ 12 1) rfl rfl (any_of HT_.out q8_) (fun _ _ _ h => h) (Or.inl ⟨by rfl, ?_⟩) ?_ ?_
        rotate_left
        ·intro w'
         go_simp
         with_reducible rfl
        rotate_left
        ·simp only [Act.put, List.setIfInBounds_toArray, List.set_cons_zero, List.set_cons_succ, i64_w, i32_w]
         rfl
        refine pure_ (i := 1) (N := some 37) (v := ?_) (a' := ?_) (bl_ 12 3) rfl rfl (any_of HT_.out q8_) (fun _ _ _ h => h) (Or.inl ⟨by rfl, ?_⟩) ?_ ?_
        rotate_left
        ·intro w'
         go_simp
         with_reducible rfl
        rotate_left
        ·simp only [Act.put, List.setIfInBounds_toArray, List.set_cons_zero, List.set_cons_succ, i64_w, i32_w]
         rfl
        refine pure_ (i := 4) (N := some 40) (v := ?_) (a' := ?_) (bl_ 12 19) rfl rfl (any_of HT_.out q8_) (fun _ _ _ h => h) (Or.inl ⟨by rfl, ?_⟩) ?_ ?_
        rotate_left
        ·intro w'
         go_simp
         with_reducible rfl
        rotate_left
        ·simp only [Act.put, List.setIfInBounds_toArray, List.set_cons_zero, List.set_cons_succ, i64_w, i32_w]
         rfl
        refine pure_ (i := 8) (N := some 44) (v := ?_) (a' := ?_) (bl_ 12 275) rfl rfl (any_of HT_.out q8_) (fun _ _ _ h => h) (Or.inl ⟨by rfl, ?_⟩) ?_ ?_
        rotate_left
        ·intro w'
         go_simp
         with_reducible rfl
        rotate_left
        ·simp only [Act.put, List.setIfInBounds_toArray, List.set_cons_zero, List.set_cons_succ, i64_w, i32_w]
         rfl
        refine take_ (i := 2) (N := some 38) (v := ?_) (a' := ?_) (bl_ 12 279) rfl rfl (take_ofW HT_.out HW_.out q8_) (fun _ _ _ h => h) (Or.inl ⟨by rfl, ?_⟩) hHeld ?_ ?_
        rotate_left
        ·rintro w' ⟨s0, s1, s2, s3⟩
         go_simp
         with_reducible rfl
        rotate_left
        ·simp only [Act.put, List.setIfInBounds_toArray, List.set_cons_zero, List.set_cons_succ, i64_w, i32_w]
         rfl
        refine take_ (i := 5) (N := some 41) (v := ?_) (a' := ?_) (bl_ 12 311) rfl rfl (take_ofW HT_.out HW_.out q8_) (fun _ _ _ h => h) (Or.inl ⟨by rfl, ?_⟩) hHeld ?_ ?_
        rotate_left
        ·rintro w' ⟨s0, s1, s2, s3⟩
         go_simp
         with_reducible rfl
        rotate_left
        ·simp only [Act.put, List.setIfInBounds_toArray, List.set_cons_zero, List.set_cons_succ, i64_w, i32_w]
         rfl
        refine pure_ (i := 6) (N := some 42) (v := ?_) (a' := ?_) (bl_ 12 375) rfl rfl (any_of HT_.out q8_) (fun _ _ _ h => h) (Or.inl ⟨by rfl, ?_⟩) ?_ ?_
        rotate_left
        ·intro w'
         go_simp
         with_reducible rfl
        rotate_left
        ·simp only [Act.put, List.setIfInBounds_toArray, List.set_cons_zero, List.set_cons_succ, i64_w, i32_w]
         rfl
        refine take_ (i := 9) (N := some 45) (v := ?_) (a' := ?_) (bl_ 12 887) rfl rfl (take_ofW HT_.out HW_.out q8_) (fun _ _ _ h => h) (Or.inl ⟨by rfl, ?_⟩) hHeld ?_ ?_
        rotate_left
        ·rintro w' ⟨s0, s1, s2, s3⟩
         go_simp
         with_reducible rfl
        rotate_left
        ·simp only [Act.put, List.setIfInBounds_toArray, List.set_cons_zero, List.set_cons_succ, i64_w, i32_w]
         rfl
        refine one_ (i := 3) (N := some 39) (bl_ 12 895) rfl rfl (one_of HT_.out q8_) q210_ (fun K hK => ?_)
        refine goes_ Try.func33 q8_ rfl #[.slice Ao26 x9_1.length co26, .agg #[.int .i64 ((rd_T52 l0_1 x32_1).f0.f0), .int .i64 ((rd_T52 l0_1 x32_1).f0.f1), .int .i64 ((rd_T52 l0_1 x32_1).f0.f2)]] (by rfl) rfl rfl q1_ ?_
        with_reducible refine (key_Put.calls _ _ x9_1 ((rd_T52 l0_1 x32_1).f0.f0) ((rd_T52 l0_1 x32_1).f0.f1) ((rd_T52 l0_1 x32_1).f0.f2) t150 _ ?side1 ?side2 A17.out).mono ?_
        (case side1 => repeat (first | exact (Kd.R_reads' HO_9.out).2.2 | (with_reducible refine Kd.C_alloc ?_ _) | (with_reducible refine Kd.C_drewN ?_ _) | (with_reducible refine Kd.C_drew ?_)))
        (case side2 => exact (Kd.R_reads' HO_9.out).2.1)
        rintro e w27 ⟨v151, rfl, ho0, hb⟩
        refine ⟨_, rfl, ?_⟩
        have n0_ := Aside0.mk (Kd.R_elder' q42_ (Kd.R_base ho0) hb)
        have n1_ := Aside0.mk (Kd.R_lower (Kd.R_new' ho0 (Kd.R_lt q42_)) (below_size q78_))
        have n2_ := Aside0.mk (blk_below (g := gb145) (o := .cells #[.int .i64 a0_0, .slice (some ad148) l0_1.length c0_1, .slice A0_2 l0_2.length c0_2] 25 (0, 0)) q47_ hb)
        have n3_ := Aside0.mk (blk_below (g := gb147) (o := .cells #[.int .i64 3, .int .i64 a1, .int .i64 (wrap64 ((l0_1.length : Int) + (l0_2.length : Int))), .int .i64 a0_0, .int .i64 a2] 62 (0, 0)) q71_ hb)
        have n4_ := Aside0.mk (blk_below (g := gb149) (o := .cells #[.int .i64 ((rd_T52 l0_1 x32_1).f0.f0), .int .i64 ((rd_T52 l0_1 x32_1).f0.f1), .int .i64 ((rd_T52 l0_1 x32_1).f0.f2), .slice A148_3 ((rd_T52 l0_1 x32_1).f1).length c148_3] 52 (0, 0)) (by (with_reducible repeat (first | refine blk_drewN ?_ _ | refine blk_drew ?_ | refine blk_alloc ?_ _)); exact BK149.out) hb)
        have n5_ := Aside0.mk (below_step q78_ hb)
        clear HO_9
        clear BK145
        clear BK147
        clear BK149
        clear HB
        have HO_9 := n0_
        have HO152 := n1_
        have BK145 := n2_
        have BK147 := n3_
        have BK149 := n4_
        have HB := n5_
        clear n0_ n1_ n2_ n3_ n4_ n5_
        (try clear hb)
        (try clear hb2)
        (try clear hk)
        (try clear hi)
        (try clear ho0)
        obtain ⟨Ao28, co28, eo28⟩ := Kd.R_slice HO152.out
        (first | subst eo28 | (injection eo28 with f1_ f2_ f3_; have f4_ := f1_.symm; have f5_ := f3_.symm; clear f1_ f2_ f3_; subst f4_; subst f5_))
        refine hK.out _ _ ⟨(blk_cell BK149.out 0).trans rfl, (blk_cell BK149.out 1).trans rfl, (blk_cell BK149.out 2).trans rfl, (blk_cell BK149.out 3).trans rfl⟩ (fun hHeld => ?_)
        clear hK K
        refine norm_ (a' := ?_) ?_ ?_
        rotate_left
        ·show Act.put _ (some 39) _ = _
         simp only [Act.put, List.setIfInBounds_toArray, List.set_cons_zero, List.set_cons_succ, i64_w, i32_w]
         rfl
        refine one_ (i := 7) (N := some 43) (bl_ 12 1023) rfl rfl (one_of HT_.out q8_) q210_ (fun K hK => ?_)
        refine goes_ Try.func32 q8_ rfl #[.slice Ao28 t150.length co28, .int .i64 (((rd_T52 l0_1 x32_1).f1).length : Int), .int .i64 1] (by rfl) rfl rfl q1_ ?_
        with_reducible refine (num_Put.calls _ _ t150 (((rd_T52 l0_1 x32_1).f1).length : Int) 1 t153 _ ?side1 ?side2 A18.out).mono ?_
        (case side1 => repeat (first | exact (Kd.R_reads' HO152.out).2.2 | (with_reducible refine Kd.C_alloc ?_ _) | (with_reducible refine Kd.C_drewN ?_ _) | (with_reducible refine Kd.C_drew ?_)))
        (case side2 => exact (Kd.R_reads' HO152.out).2.1)
        rintro e w29 ⟨v154, rfl, ho0, hb⟩
        refine ⟨_, rfl, ?_⟩
        have n0_ := Aside0.mk (Kd.R_elder' q42_ (Kd.R_base ho0) hb)
        have n1_ := Aside0.mk (Kd.R_elder' (by (with_reducible repeat (first | apply Kd.R_alloc | apply Kd.R_drewN | apply Kd.R_drew)); exact HO152.out) (Kd.R_base ho0) hb)
        have n2_ := Aside0.mk (Kd.R_lower (Kd.R_new' (Kd.R_new' ho0 (Kd.R_lt q42_)) (Kd.R_lt (by (with_reducible repeat (first | apply Kd.R_alloc | apply Kd.R_drewN | apply Kd.R_drew)); exact HO152.out))) (below_size q78_))
        have n3_ := Aside0.mk (blk_below (g := gb145) (o := .cells #[.int .i64 a0_0, .slice (some ad148) l0_1.length c0_1, .slice A0_2 l0_2.length c0_2] 25 (0, 0)) q47_ hb)
        have n4_ := Aside0.mk (blk_below (g := gb147) (o := .cells #[.int .i64 3, .int .i64 a1, .int .i64 (wrap64 ((l0_1.length : Int) + (l0_2.length : Int))), .int .i64 a0_0, .int .i64 a2] 62 (0, 0)) q71_ hb)
        have n5_ := Aside0.mk (blk_below (g := gb149) (o := .cells #[.int .i64 ((rd_T52 l0_1 x32_1).f0.f0), .int .i64 ((rd_T52 l0_1 x32_1).f0.f1), .int .i64 ((rd_T52 l0_1 x32_1).f0.f2), .slice A148_3 ((rd_T52 l0_1 x32_1).f1).length c148_3] 52 (0, 0)) (by (with_reducible repeat (first | refine blk_drewN ?_ _ | refine blk_drew ?_ | refine blk_alloc ?_ _)); exact BK149.out) hb)
        have n6_ := Aside0.mk (below_step q78_ hb)
        clear HO_9
        clear HO152
        clear BK145
        clear BK147
        clear BK149
        clear HB
        have HO_9 := n0_
        have HO152 := n1_
        have HO155 := n2_
        have BK145 := n3_
        have BK147 := n4_
        have BK149 := n5_
        have HB := n6_
        clear n0_ n1_ n2_ n3_ n4_ n5_ n6_
        (try clear hb)
        (try clear hb2)
        (try clear hk)
        (try clear hi)
        (try clear ho0)
        refine hK.out _ _ ⟨(blk_cell BK149.out 0).trans rfl, (blk_cell BK149.out 1).trans rfl, (blk_cell BK149.out 2).trans rfl, (blk_cell BK149.out 3).trans rfl⟩ (fun hHeld => ?_)
        clear hK K
        refine norm_ (a' := ?_) ?_ ?_
        rotate_left
        ·show Act.put _ (some 43) _ = _
         simp only [Act.put, List.setIfInBounds_toArray, List.set_cons_zero, List.set_cons_succ, i64_w, i32_w]
         rfl
        refine one_ (i := 10) (N := some 46) (bl_ 12 2047) rfl rfl (one_of HT_.out q8_) q210_ (fun K hK => ?_)
        refine Kd.R_append_rows_step (Kd.int .u8) (w0 := w) w.heap.size (by rfl) (.tmp 43) (.tmp 45) 29 5 (.int .u8 0) 1 rfl Try.underlying29 info5 rfl q210_ (by omega) v154 t153 ((rd_T52 l0_1 x32_1).f1) _ _ _ (fun k_ => some k_ ≠ (.slice Ao26 x9_1.length co26 : Value).ownBlock ∧ some k_ ≠ (.slice Ao28 t150.length co28 : Value).ownBlock) (fun _ => False) rfl rfl ?aO ?aR (fun _ _ h => h) (fun _ h => h.elim) ?aF ?aB ?aS ?aL ?_
        (case aR => repeat (first | exact (Kd.C_below HR148_3.out HB.out) | (with_reducible refine Kd.C_alloc ?_ _) | (with_reducible refine Kd.C_drewN ?_ _) | (with_reducible refine Kd.C_drew ?_)))
        (case aB => exact q78_)
        (case aF => exact (fun k_ hk => ⟨Kd.fresh' (Kd.R_lt q42_) k_ hk, Kd.fresh' (Kd.R_lt (by (with_reducible repeat (first | apply Kd.R_alloc | apply Kd.R_drewN | apply Kd.R_drew)); exact HO152.out)) k_ hk⟩))
        (case aO => exact (by (with_reducible repeat (first | apply Kd.R_alloc | apply Kd.R_drewN | apply Kd.R_drew)); exact Kd.R_mono HO155.out (fun _ hk => ⟨hk.1.2, hk.2⟩)))
        (case aS => exact (below_size q78_))
        (case aL => have := LMc19.out; omega)
        intro v157 w30 ho hb hg hat
        rw [← Ny156.out] at ho
        have n0_ := Aside0.mk (Kd.R_after (ok := (fun k_ => some k_ ≠ (.slice Ao28 t150.length co28 : Value).ownBlock)) (by (with_reducible repeat (first | apply Kd.R_alloc | apply Kd.R_drewN | apply Kd.R_drew)); exact Kd.R_mono HO_9.out (fun _ hk => ⟨hk.1.2, hk.2⟩)) hg hat)
        have n1_ := Aside0.mk (blk_grown (g := gb145) (o := .cells #[.int .i64 a0_0, .slice (some ad148) l0_1.length c0_1, .slice A0_2 l0_2.length c0_2] 25 (0, 0)) q47_ hg (Kd.R_ne HO155.out BK145.out q210_))
        have n2_ := Aside0.mk (blk_grown (g := gb147) (o := .cells #[.int .i64 3, .int .i64 a1, .int .i64 (wrap64 ((l0_1.length : Int) + (l0_2.length : Int))), .int .i64 a0_0, .int .i64 a2] 62 (0, 0)) q71_ hg (Kd.R_ne HO155.out BK147.out q210_))
        have n3_ := Aside0.mk (blk_grown (g := gb149) (o := .cells #[.int .i64 ((rd_T52 l0_1 x32_1).f0.f0), .int .i64 ((rd_T52 l0_1 x32_1).f0.f1), .int .i64 ((rd_T52 l0_1 x32_1).f0.f2), .slice A148_3 ((rd_T52 l0_1 x32_1).f1).length c148_3] 52 (0, 0)) (by (with_reducible repeat (first | refine blk_drewN ?_ _ | refine blk_drew ?_ | refine blk_alloc ?_ _)); exact BK149.out) hg (Kd.R_ne HO155.out BK149.out q210_))
        have n4_ := Aside0.mk (Kd.R_after (ok := (fun k_ => some k_ ≠ (.slice Ao26 x9_1.length co26 : Value).ownBlock)) (by (with_reducible repeat (first | apply Kd.R_alloc | apply Kd.R_drewN | apply Kd.R_drew)); exact Kd.R_mono HO152.out (fun _ hk => ⟨hk.1.2, hk.2⟩)) hg hat)
        have n5_ := Aside0.mk (hb)
        have n6_ := Aside0.mk (ho)
        clear HO_9
        clear BK145
        clear BK147
        clear BK149
        clear HO152
        clear HB
        clear HO155
        have HO_9 := n0_
        have BK145 := n1_
        have BK147 := n2_
        have BK149 := n3_
        have HO152 := n4_
        have HB := n5_
        have HO158 := n6_
        clear n0_ n1_ n2_ n3_ n4_ n5_ n6_
        clear ho hb hg hat
        refine hK.out _ _ ⟨(blk_cell BK149.out 0).trans rfl, (blk_cell BK149.out 1).trans rfl, (blk_cell BK149.out 2).trans rfl, (blk_cell BK149.out 3).trans rfl⟩ (fun hHeld => ?_)
        clear hK K
        refine norm_ (a' := ?_) ?_ ?_
        rotate_left
        ·show Act.put _ (some 46) _ = _
         simp only [Act.put, List.setIfInBounds_toArray, List.set_cons_zero, List.set_cons_succ, i64_w, i32_w]
         rfl
        refine pure_ (i := 11) (N := some 9) (v := ?_) (a' := ?_) (bl_ 12 4095) rfl rfl (any_of HT_.out q8_) (fun _ _ _ h => h) (Or.inl ⟨by rfl, ?_⟩) ?_ ?_
        rotate_left
        ·intro w'
         go_simp
         with_reducible rfl
        rotate_left
        ·simp only [Act.put, List.setIfInBounds_toArray, List.set_cons_zero, List.set_cons_succ, i64_w, i32_w]
         rfl
        refine done_ (done_of HT_.out q8_) ?_
        try go_wp2
        go_roundg k1
        case measure => have := HK1.out; omega
        case rel => exact ⟨(y156), (wrap64 (x32_1 + 1)), q14_, H', ⟨by have := HK1.out; omega⟩, ⟨by (with_reducible repeat (first | apply Kd.R_alloc | apply Kd.R_drewN | apply Kd.R_drew)); exact Kd.R_mono HO158.out (fun _ hk => trivial)⟩, ⟨q47_⟩, ⟨q71_⟩, ⟨q78_⟩⟩
       ·rw [if_neg c19] at H
        exact absurd H (by simp)
      ·rw [if_neg c16] at H
       exact absurd H (by simp)
     ·rw [if_neg c15] at H
      exact absurd H (by simp)
    ·rw [if_neg c14] at H
     have c14b0 : decide (x32_1 < (l0_1.length : Int)) = false := decide_eq_false c14
     clear c14
     have H' := Aside0.mk H
     clear H
     have hnb31 := NB145_147.out
     have hnc31 := NB147_145.out
     have hcz32_0 : wr.cell? ⟨gb145, 0, none⟩ = some (.int .i64 a0_0) := (blk_cell BK145.out 0).trans rfl
     have hcz32_1 : wr.cell? ⟨gb145, 1, none⟩ = some (.slice A0_1 l0_1.length c0_1) := (blk_cell BK145.out 1).trans rfl
     have hcz32_2 : wr.cell? ⟨gb145, 2, none⟩ = some (.slice A0_2 l0_2.length c0_2) := (blk_cell BK145.out 2).trans rfl
     have hfz32_0 := blk_frozen BK145.out 0
     have hfz32_1 := blk_frozen BK145.out 1
     have hfz32_2 := blk_frozen BK145.out 2
     go_wp2
     go_loopg [9, 51] k1 (fun kq v9 v51 w' => ∃ (x9_2 : List Int) (x51_2 : Int), v51 = .int .i64 x51_2 ∧ Aside0 (node_Write.l1 kq x9_2 l0_2 (l0_2.length : Int) x51_2 a0_0 l0_1 l0_2 3 a1 (wrap64 ((l0_1.length : Int) + (l0_2.length : Int))) a0_0 a2 = some (r1, r2)) ∧ Aside0 (kq ≤ k1) ∧ Aside0 (Kd.R (Kd.int .u8) 5 w' w.heap.size (fun _ => True) v9 x9_2) ∧ Aside0 (w'.heap[gb145]? = some (.cells #[.int .i64 a0_0, (.slice A0_1 l0_1.length c0_1), (.slice A0_2 l0_2.length c0_2)] 25 (0, 0))) ∧ Aside0 (w'.heap[gb147]? = some (.cells #[.int .i64 3, .int .i64 a1, .int .i64 (wrap64 ((l0_1.length : Int) + (l0_2.length : Int))), .int .i64 a0_0, .int .i64 a2] 62 (0, 0))) ∧ Aside0 (Below w.heap.size w w'))
     case atStart => exact ⟨(x9_1), (0), q14_, H', ⟨Nat.le_refl _⟩, ⟨q42_⟩, ⟨q47_⟩, ⟨q71_⟩, ⟨q51_⟩⟩
     case round =>
      clear H'
      try clear c1
      try clear p1
      try clear q1
      try clear hx1
      try clear c2
      try clear p2
      try clear c3
      try clear c5
      try clear p6
      try clear c11
      try clear c13
      try clear c14
      try clear c14b0
      try clear p14
      try clear q14
      try clear hx14
      try clear c15
      try clear c15b0
      try clear c16
      try clear c16b0
      try clear c19
      try clear c21
      try clear c22
      try clear c31
      try clear c32
      try clear hcz12_0
      try clear hcz12_1
      try clear hcz12_2
      try clear hcz12_3
      try clear hcz12_4
      try clear hcz13_0
      try clear hcz13_1
      try clear hcz13_2
      try clear hcz23_0
      try clear hcz23_1
      try clear hcz23_2
      try clear hcz23_3
      try clear hcz32_0
      try clear hcz32_1
      try clear hcz32_2
      try clear hcz7_0
      try clear hcz7_1
      try clear hcz7_2
      try clear hcz9_0
      try clear hcz9_1
      try clear hcz9_2
      try clear hfz12_0
      try clear hfz12_1
      try clear hfz12_2
      try clear hfz12_3
      try clear hfz12_4
      try clear hfz13_0
      try clear hfz13_1
      try clear hfz13_2
      try clear hfz23_0
      try clear hfz23_1
      try clear hfz23_2
      try clear hfz23_3
      try clear hfz32_0
      try clear hfz32_1
      try clear hfz32_2
      try clear hfz7_0
      try clear hfz7_1
      try clear hfz7_2
      try clear hfz9_0
      try clear hfz9_1
      try clear hfz9_2
      try clear hx148_0
      try clear hx148_1
      try clear hx148_2
      try clear hx148_3
      try clear p148
      try clear p2
      try clear p6
      try clear q148
      obtain ⟨x9_2, x51_2, rfl, HA, HK2, HO_9, BK145, BK147, HB⟩ := hrel
      cases gk with
      | zero => exact absurd (show none = some _ from HA.out) (by simp)
      | succ k2 =>
       have H := HA.out
       clear HA
       simp only [node_Write.l1] at H
       by_cases c33 : x51_2 < (l0_2.length : Int)
       ·rw [if_pos c33] at H
        have c33b0 : decide (x51_2 < (l0_2.length : Int)) = true := decide_eq_true c33
        clear c33
        by_cases c34 : 0 ≤ x51_2
        ·rw [if_pos c34] at H
         have c34b0 : decide (0 ≤ x51_2) = true := decide_eq_true c34
         clear c34
         by_cases c35 : x51_2 < (l0_2.length : Int)
         ·rw [if_pos c35] at H
          have c35b0 : decide (x51_2 < (l0_2.length : Int)) = true := decide_eq_true c35
          clear c35
          replace H := Option.bind_eq_some_iff.mp H
          obtain ⟨t161, A360, H⟩ := H
          replace H : ((num_Put.f t161 ((rd_T57 l0_2 x51_2).f1) 2).bind fun t164 => (node_Write.l1 k2 t164 l0_2 (l0_2.length : Int) (wrap64 (x51_2 + 1)) a0_0 l0_1 l0_2 3 a1 (wrap64 ((l0_1.length : Int) + (l0_2.length : Int))) a0_0 a2)) = some (r1, r2) := H
          have A36 := Aside0.mk A360
          clear A360
          replace H := Option.bind_eq_some_iff.mp H
          obtain ⟨t164, A370, H⟩ := H
          replace H : (node_Write.l1 k2 t164 l0_2 (l0_2.length : Int) (wrap64 (x51_2 + 1)) a0_0 l0_1 l0_2 3 a1 (wrap64 ((l0_1.length : Int) + (l0_2.length : Int))) a0_0 a2) = some (r1, r2) := H
          have A37 := Aside0.mk A370
          clear A370
          have H' := Aside0.mk H
          clear H
          have p159 : 0 ≤ (x51_2 : Int) := of_decide_eq_true q4_
          have q159 : x51_2 < (l0_2.length : Int) := of_decide_eq_true q4_
          obtain ⟨ad159, e159, hx159_0, hx159_1, hx159_2, hx159_3⟩ := at_T57 HR0_2.out x51_2 p159 q159
          cases e159
          replace hx159_0 := (HB.out.cell (World.block_lt_of_cell? w _ hx159_0)).trans hx159_0
          replace hx159_1 := (HB.out.cell (World.block_lt_of_cell? w _ hx159_1)).trans hx159_1
          replace hx159_2 := (HB.out.cell (World.block_lt_of_cell? w _ hx159_2)).trans hx159_2
          replace hx159_3 := (HB.out.cell (World.block_lt_of_cell? w _ hx159_3)).trans hx159_3
          replace p159 := eq_true p159
          replace q159 := eq_true q159
          try go_wp2_with (first | ((with_reducible refine gate_dst (N := 13) rfl ?_); refine box_event ?hg (N := 13) ?hd (cs := #[.int .i64 0, .int .i64 0, .int .i64 0, .int .i64 0]) (t := 57) ?hr ?_; (case hd => rfl); (case hg => rfl); (case hr => first | (go_simp; done) | (go_simp; rfl)); intro gb160 hg w38 hbox hb; have n0_ := Aside0.mk (Kd.R_below q42_ hb); have n1_ := Aside0.mk (blk_below (g := gb145) (o := .cells #[.int .i64 a0_0, .slice A0_1 l0_1.length c0_1, .slice (some ad159) l0_2.length c0_2] 25 (0, 0)) q47_ hb); have n2_ := Aside0.mk (blk_below (g := gb147) (o := .cells #[.int .i64 3, .int .i64 a1, .int .i64 (wrap64 ((l0_1.length : Int) + (l0_2.length : Int))), .int .i64 a0_0, .int .i64 a2] 62 (0, 0)) q71_ hb); have n3_ := Aside0.mk (below_step q51_ hb); have n4_ := Aside0.mk (hbox); have n5_ := Aside0.mk ((by rw [hg]; exact (below_size q51_) : w.heap.size ≤ gb160)); have n6_ := Aside0.mk ((by rw [hg]; exact (below_size q51_) : w.heap.size ≤ gb160)); have n7_ := Aside0.mk ((by rw [hg]; exact Nat.ne_of_lt (blk_lt (g := gb145) (o := .cells #[.int .i64 a0_0, .slice A0_1 l0_1.length c0_1, .slice (some ad159) l0_2.length c0_2] 25 (0, 0)) q47_) : gb145 ≠ gb160)); have n8_ := Aside0.mk ((by rw [hg]; exact Nat.ne_of_gt (blk_lt (g := gb145) (o := .cells #[.int .i64 a0_0, .slice A0_1 l0_1.length c0_1, .slice (some ad159) l0_2.length c0_2] 25 (0, 0)) q47_) : gb160 ≠ gb145)); have n9_ := Aside0.mk ((by rw [hg]; exact Nat.ne_of_lt (blk_lt (g := gb147) (o := .cells #[.int .i64 3, .int .i64 a1, .int .i64 (wrap64 ((l0_1.length : Int) + (l0_2.length : Int))), .int .i64 a0_0, .int .i64 a2] 62 (0, 0)) q71_) : gb147 ≠ gb160)); have n10_ := Aside0.mk ((by rw [hg]; exact Nat.ne_of_gt (blk_lt (g := gb147) (o := .cells #[.int .i64 3, .int .i64 a1, .int .i64 (wrap64 ((l0_1.length : Int) + (l0_2.length : Int))), .int .i64 a0_0, .int .i64 a2] 62 (0, 0)) q71_) : gb160 ≠ gb147)); clear HO_9; clear BK145; clear BK147; clear HB; have HO_9 := n0_; have BK145 := n1_; have BK147 := n2_; have HB := n3_; have BK160 := n4_; have GW160 := n5_; have GE160 := n6_; have NB145_160 := n7_; have NB160_145 := n8_; have NB147_160 := n9_; have NB160_147 := n10_; clear n0_ n1_ n2_ n3_ n4_ n5_ n6_ n7_ n8_ n9_ n10_; clear hb hbox hg; have hnb39 := NB160_145.out; have hnc39 := NB145_160.out; have hnb40 := NB160_147.out; have hnc40 := NB147_160.out; have hcz41_0 : w38.cell? ⟨gb160, 0, none⟩ = some (.int .i64 0) := (blk_cell BK160.out 0).trans rfl; have hcz41_1 : w38.cell? ⟨gb160, 1, none⟩ = some (.int .i64 0) := (blk_cell BK160.out 1).trans rfl; have hcz41_2 : w38.cell? ⟨gb160, 2, none⟩ = some (.int .i64 0) := (blk_cell BK160.out 2).trans rfl; have hcz41_3 : w38.cell? ⟨gb160, 3, none⟩ = some (.int .i64 0) := (blk_cell BK160.out 3).trans rfl; have hfz41_0 := blk_frozen BK160.out 0; have hfz41_1 := blk_frozen BK160.out 1; have hfz41_2 := blk_frozen BK160.out 2; have hfz41_3 := blk_frozen BK160.out 3))
          have n0_ : Aside0 (Kd.R (Kd.int .u8) 5 ((((w38.setCell ⟨gb160, 0, none⟩ (.int .i64 ((rd_T57 l0_2 x51_2).f0.f0))).setCell ⟨gb160, 1, none⟩ (.int .i64 ((rd_T57 l0_2 x51_2).f0.f1))).setCell ⟨gb160, 2, none⟩ (.int .i64 ((rd_T57 l0_2 x51_2).f0.f2))).setCell ⟨gb160, 3, none⟩ (.int .i64 ((rd_T57 l0_2 x51_2).f1))) w.heap.size (fun _ => True) u9 x9_2) := ⟨by (with_reducible repeat (first | apply Kd.R_alloc | apply Kd.R_drewN | apply Kd.R_drew)); exact Kd.R_mono (Kd.R_far (p := ⟨gb160, 3, none⟩) (Kd.R_far (p := ⟨gb160, 2, none⟩) (Kd.R_far (p := ⟨gb160, 1, none⟩) (Kd.R_far (p := ⟨gb160, 0, none⟩) (Kd.R_types HO_9.out BK160.out q210_) (fun _ hk => hk.2) (.int .i64 ((rd_T57 l0_2 x51_2).f0.f0))) (fun _ hk => hk.2) (.int .i64 ((rd_T57 l0_2 x51_2).f0.f1))) (fun _ hk => hk.2) (.int .i64 ((rd_T57 l0_2 x51_2).f0.f2))) (fun _ hk => hk.2) (.int .i64 ((rd_T57 l0_2 x51_2).f1))) (fun _ hk => trivial)⟩
          have n1_ : Aside0 (((((w38.setCell ⟨gb160, 0, none⟩ (.int .i64 ((rd_T57 l0_2 x51_2).f0.f0))).setCell ⟨gb160, 1, none⟩ (.int .i64 ((rd_T57 l0_2 x51_2).f0.f1))).setCell ⟨gb160, 2, none⟩ (.int .i64 ((rd_T57 l0_2 x51_2).f0.f2))).setCell ⟨gb160, 3, none⟩ (.int .i64 ((rd_T57 l0_2 x51_2).f1))).heap[gb145]? = some (.cells #[.int .i64 a0_0, .slice A0_1 l0_1.length c0_1, .slice (some ad159) l0_2.length c0_2] 25 (0, 0))) := ⟨by (with_reducible repeat (first | refine blk_drewN ?_ _ | refine blk_drew ?_ | refine blk_alloc ?_ _)); refine blk_far ?_ NB145_160.out _; (with_reducible repeat (first | refine blk_drewN ?_ _ | refine blk_drew ?_ | refine blk_alloc ?_ _)); refine blk_far ?_ NB145_160.out _; (with_reducible repeat (first | refine blk_drewN ?_ _ | refine blk_drew ?_ | refine blk_alloc ?_ _)); refine blk_far ?_ NB145_160.out _; (with_reducible repeat (first | refine blk_drewN ?_ _ | refine blk_drew ?_ | refine blk_alloc ?_ _)); refine blk_far ?_ NB145_160.out _; (with_reducible repeat (first | refine blk_drewN ?_ _ | refine blk_drew ?_ | refine blk_alloc ?_ _)); exact BK145.out⟩
          have n2_ : Aside0 (((((w38.setCell ⟨gb160, 0, none⟩ (.int .i64 ((rd_T57 l0_2 x51_2).f0.f0))).setCell ⟨gb160, 1, none⟩ (.int .i64 ((rd_T57 l0_2 x51_2).f0.f1))).setCell ⟨gb160, 2, none⟩ (.int .i64 ((rd_T57 l0_2 x51_2).f0.f2))).setCell ⟨gb160, 3, none⟩ (.int .i64 ((rd_T57 l0_2 x51_2).f1))).heap[gb147]? = some (.cells #[.int .i64 3, .int .i64 a1, .int .i64 (wrap64 ((l0_1.length : Int) + (l0_2.length : Int))), .int .i64 a0_0, .int .i64 a2] 62 (0, 0))) := ⟨by (with_reducible repeat (first | refine blk_drewN ?_ _ | refine blk_drew ?_ | refine blk_alloc ?_ _)); refine blk_far ?_ NB147_160.out _; (with_reducible repeat (first | refine blk_drewN ?_ _ | refine blk_drew ?_ | refine blk_alloc ?_ _)); refine blk_far ?_ NB147_160.out _; (with_reducible repeat (first | refine blk_drewN ?_ _ | refine blk_drew ?_ | refine blk_alloc ?_ _)); refine blk_far ?_ NB147_160.out _; (with_reducible repeat (first | refine blk_drewN ?_ _ | refine blk_drew ?_ | refine blk_alloc ?_ _)); refine blk_far ?_ NB147_160.out _; (with_reducible repeat (first | refine blk_drewN ?_ _ | refine blk_drew ?_ | refine blk_alloc ?_ _)); exact BK147.out⟩
          have n3_ : Aside0 (((((w38.setCell ⟨gb160, 0, none⟩ (.int .i64 ((rd_T57 l0_2 x51_2).f0.f0))).setCell ⟨gb160, 1, none⟩ (.int .i64 ((rd_T57 l0_2 x51_2).f0.f1))).setCell ⟨gb160, 2, none⟩ (.int .i64 ((rd_T57 l0_2 x51_2).f0.f2))).setCell ⟨gb160, 3, none⟩ (.int .i64 ((rd_T57 l0_2 x51_2).f1))).heap[gb160]? = some (.cells #[.int .i64 ((rd_T57 l0_2 x51_2).f0.f0), .int .i64 ((rd_T57 l0_2 x51_2).f0.f1), .int .i64 ((rd_T57 l0_2 x51_2).f0.f2), .int .i64 ((rd_T57 l0_2 x51_2).f1)] 57 (0, 0))) := ⟨by (with_reducible repeat (first | refine blk_drewN ?_ _ | refine blk_drew ?_ | refine blk_alloc ?_ _)); refine blk_put (cs := #[.int .i64 ((rd_T57 l0_2 x51_2).f0.f0), .int .i64 ((rd_T57 l0_2 x51_2).f0.f1), .int .i64 ((rd_T57 l0_2 x51_2).f0.f2), .int .i64 0]) ?_ 3 _ rfl; (with_reducible repeat (first | refine blk_drewN ?_ _ | refine blk_drew ?_ | refine blk_alloc ?_ _)); refine blk_put (cs := #[.int .i64 ((rd_T57 l0_2 x51_2).f0.f0), .int .i64 ((rd_T57 l0_2 x51_2).f0.f1), .int .i64 0, .int .i64 0]) ?_ 2 _ rfl; (with_reducible repeat (first | refine blk_drewN ?_ _ | refine blk_drew ?_ | refine blk_alloc ?_ _)); refine blk_put (cs := #[.int .i64 ((rd_T57 l0_2 x51_2).f0.f0), .int .i64 0, .int .i64 0, .int .i64 0]) ?_ 1 _ rfl; (with_reducible repeat (first | refine blk_drewN ?_ _ | refine blk_drew ?_ | refine blk_alloc ?_ _)); refine blk_put (cs := #[.int .i64 0, .int .i64 0, .int .i64 0, .int .i64 0]) ?_ 0 _ rfl; (with_reducible repeat (first | refine blk_drewN ?_ _ | refine blk_drew ?_ | refine blk_alloc ?_ _)); exact BK160.out⟩
          have n4_ : Aside0 (Below w.heap.size w ((((w38.setCell ⟨gb160, 0, none⟩ (.int .i64 ((rd_T57 l0_2 x51_2).f0.f0))).setCell ⟨gb160, 1, none⟩ (.int .i64 ((rd_T57 l0_2 x51_2).f0.f1))).setCell ⟨gb160, 2, none⟩ (.int .i64 ((rd_T57 l0_2 x51_2).f0.f2))).setCell ⟨gb160, 3, none⟩ (.int .i64 ((rd_T57 l0_2 x51_2).f1)))) := ⟨q105_⟩
          (try clear HO_9)
          (try clear BK145)
          (try clear BK147)
          (try clear BK160)
          (try clear HB)
          generalize ((((w38.setCell ⟨gb160, 0, none⟩ (.int .i64 ((rd_T57 l0_2 x51_2).f0.f0))).setCell ⟨gb160, 1, none⟩ (.int .i64 ((rd_T57 l0_2 x51_2).f0.f1))).setCell ⟨gb160, 2, none⟩ (.int .i64 ((rd_T57 l0_2 x51_2).f0.f2))).setCell ⟨gb160, 3, none⟩ (.int .i64 ((rd_T57 l0_2 x51_2).f1))) = w42 at n0_ n1_ n2_ n3_ n4_ ⊢
          have HO_9 := n0_
          have BK145 := n1_
          have BK147 := n2_
          have BK160 := n3_
          have HB := n4_
          clear n0_ n1_ n2_ n3_ n4_
          have n0_ := Aside0.mk (Kd.R_drew HO_9.out)
          have n1_ := Aside0.mk (blk_drew BK145.out)
          have n2_ := Aside0.mk (blk_drew BK147.out)
          have n3_ := Aside0.mk (blk_drew BK160.out)
          have n4_ := Aside0.mk (below_drew1 HB.out)
          clear HO_9
          clear BK145
          clear BK147
          clear BK160
          clear HB
          have HO_9 := n0_
          have BK145 := n1_
          have BK147 := n2_
          have BK160 := n3_
          have HB := n4_
          clear n0_ n1_ n2_ n3_ n4_
          obtain ⟨Ao44, co44, eo44⟩ := Kd.R_slice HO_9.out
          (first | subst eo44 | (injection eo44 with f1_ f2_ f3_; have f4_ := f1_.symm; have f5_ := f3_.symm; clear f1_ f2_ f3_; subst f4_; subst f5_))
          refine start_ (n := 8) (S := fun w' => w'.cell? ⟨gb160, 0, none⟩ = some (.int .i64 ((rd_T57 l0_2 x51_2).f0.f0)) ∧ w'.cell? ⟨gb160, 1, none⟩ = some (.int .i64 ((rd_T57 l0_2 x51_2).f0.f1)) ∧ w'.cell? ⟨gb160, 2, none⟩ = some (.int .i64 ((rd_T57 l0_2 x51_2).f0.f2)) ∧ w'.cell? ⟨gb160, 3, none⟩ = some (.int .i64 ((rd_T57 l0_2 x51_2).f1))) (ds := []) (bl_ 8 0) q8_ rfl rfl ⟨(blk_cell BK160.out 0).trans rfl, (blk_cell BK160.out 1).trans rfl, (blk_cell BK160.out 2).trans rfl, (blk_cell BK160.out 3).trans rfl⟩ (fun hHeld => ?_); refine with_tabW node_Write.tab13 node_Write.bits13 (fun HT_ HW_ => ?_)
          generalize w42.drew = w43 at HO_9 BK145 BK147 BK160 HB hHeld ⊢
          refine pure_ (i := 0) (N := some 55) (v := ?_) (a' := ?_) (bl_ 8 1) rfl rfl (any_of HT_.out q8_) (fun _ _ _ h => h) (Or.inl ⟨by rfl, ?_⟩) ?_ ?_
          rotate_left
          ·intro w'
           go_simp
           with_reducible rfl
          rotate_left
          ·simp only [Act.put, List.setIfInBounds_toArray, List.set_cons_zero, List.set_cons_succ, i64_w, i32_w]
           rfl
          refine pure_ (i := 1) (N := some 56) (v := ?_) (a' := ?_) (bl_ 8 3) rfl rfl (any_of HT_.out q8_) (fun _ _ _ h => h) (Or.inl ⟨by rfl, ?_⟩) ?_ ?_
          rotate_left
          ·intro w'
           go_simp
           with_reducible rfl
          rotate_left
          ·simp only [Act.put, List.setIfInBounds_toArray, List.set_cons_zero, List.set_cons_succ, i64_w, i32_w]
           rfl
          refine pure_ (i := 4) (N := some 59) (v := ?_) (a' := ?_) (bl_ 8 19) rfl rfl (any_of HT_.out q8_) (fun _ _ _ h => h) (Or.inl ⟨by rfl, ?_⟩) ?_ ?_
          rotate_left
          ·intro w'
           go_simp
           with_reducible rfl
          rotate_left
          ·simp only [Act.put, List.setIfInBounds_toArray, List.set_cons_zero, List.set_cons_succ, i64_w, i32_w]
           rfl
          refine take_ (i := 2) (N := some 57) (v := ?_) (a' := ?_) (bl_ 8 23) rfl rfl (take_ofW HT_.out HW_.out q8_) (fun _ _ _ h => h) (Or.inl ⟨by rfl, ?_⟩) hHeld ?_ ?_
          rotate_left
          ·rintro w' ⟨s0, s1, s2, s3⟩
           go_simp
           with_reducible rfl
          rotate_left
          ·simp only [Act.put, List.setIfInBounds_toArray, List.set_cons_zero, List.set_cons_succ, i64_w, i32_w]
           rfl
          refine take_ (i := 5) (N := some 60) (v := ?_) (a' := ?_) (bl_ 8 55) rfl rfl (take_ofW HT_.out HW_.out q8_) (fun _ _ _ h => h) (Or.inl ⟨by rfl, ?_⟩) hHeld ?_ ?_
          rotate_left
          ·rintro w' ⟨s0, s1, s2, s3⟩
           go_simp
           with_reducible rfl
          rotate_left
          ·simp only [Act.put, List.setIfInBounds_toArray, List.set_cons_zero, List.set_cons_succ, i64_w, i32_w]
           rfl
          refine one_ (i := 3) (N := some 58) (bl_ 8 63) rfl rfl (one_of HT_.out q8_) q210_ (fun K hK => ?_)
          refine goes_ Try.func33 q8_ rfl #[.slice Ao44 x9_2.length co44, .agg #[.int .i64 ((rd_T57 l0_2 x51_2).f0.f0), .int .i64 ((rd_T57 l0_2 x51_2).f0.f1), .int .i64 ((rd_T57 l0_2 x51_2).f0.f2)]] (by rfl) rfl rfl q1_ ?_
          with_reducible refine (key_Put.calls _ _ x9_2 ((rd_T57 l0_2 x51_2).f0.f0) ((rd_T57 l0_2 x51_2).f0.f1) ((rd_T57 l0_2 x51_2).f0.f2) t161 _ ?side1 ?side2 A36.out).mono ?_
          (case side1 => repeat (first | exact (Kd.R_reads' HO_9.out).2.2 | (with_reducible refine Kd.C_alloc ?_ _) | (with_reducible refine Kd.C_drewN ?_ _) | (with_reducible refine Kd.C_drew ?_)))
          (case side2 => exact (Kd.R_reads' HO_9.out).2.1)
          rintro e w45 ⟨v162, rfl, ho0, hb⟩
          refine ⟨_, rfl, ?_⟩
          have n0_ := Aside0.mk (Kd.R_elder' q42_ (Kd.R_base ho0) hb)
          have n1_ := Aside0.mk (Kd.R_lower (Kd.R_new' ho0 (Kd.R_lt q42_)) (below_size q105_))
          have n2_ := Aside0.mk (blk_below (g := gb145) (o := .cells #[.int .i64 a0_0, .slice A0_1 l0_1.length c0_1, .slice (some ad159) l0_2.length c0_2] 25 (0, 0)) q47_ hb)
          have n3_ := Aside0.mk (blk_below (g := gb147) (o := .cells #[.int .i64 3, .int .i64 a1, .int .i64 (wrap64 ((l0_1.length : Int) + (l0_2.length : Int))), .int .i64 a0_0, .int .i64 a2] 62 (0, 0)) q71_ hb)
          have n4_ := Aside0.mk (blk_below (g := gb160) (o := .cells #[.int .i64 ((rd_T57 l0_2 x51_2).f0.f0), .int .i64 ((rd_T57 l0_2 x51_2).f0.f1), .int .i64 ((rd_T57 l0_2 x51_2).f0.f2), .int .i64 ((rd_T57 l0_2 x51_2).f1)] 57 (0, 0)) (by (with_reducible repeat (first | refine blk_drewN ?_ _ | refine blk_drew ?_ | refine blk_alloc ?_ _)); exact BK160.out) hb)
          have n5_ := Aside0.mk (below_step q105_ hb)
          clear HO_9
          clear BK145
          clear BK147
          clear BK160
          clear HB
          have HO_9 := n0_
          have HO163 := n1_
          have BK145 := n2_
          have BK147 := n3_
          have BK160 := n4_
          have HB := n5_
          clear n0_ n1_ n2_ n3_ n4_ n5_
          (try clear hb)
          (try clear hb2)
          (try clear hk)
          (try clear hi)
          (try clear ho0)
          obtain ⟨Ao46, co46, eo46⟩ := Kd.R_slice HO163.out
          (first | subst eo46 | (injection eo46 with f1_ f2_ f3_; have f4_ := f1_.symm; have f5_ := f3_.symm; clear f1_ f2_ f3_; subst f4_; subst f5_))
          refine hK.out _ _ ⟨(blk_cell BK160.out 0).trans rfl, (blk_cell BK160.out 1).trans rfl, (blk_cell BK160.out 2).trans rfl, (blk_cell BK160.out 3).trans rfl⟩ (fun hHeld => ?_)
          clear hK K
          refine norm_ (a' := ?_) ?_ ?_
          rotate_left
          ·show Act.put _ (some 58) _ = _
           simp only [Act.put, List.setIfInBounds_toArray, List.set_cons_zero, List.set_cons_succ, i64_w, i32_w]
           rfl
          refine one_ (i := 6) (N := some 61) (bl_ 8 127) rfl rfl (one_of HT_.out q8_) q210_ (fun K hK => ?_)
          refine goes_ Try.func32 q8_ rfl #[.slice Ao46 t161.length co46, .int .i64 ((rd_T57 l0_2 x51_2).f1), .int .i64 2] (by rfl) rfl rfl q1_ ?_
          with_reducible refine (num_Put.calls _ _ t161 ((rd_T57 l0_2 x51_2).f1) 2 t164 _ ?side1 ?side2 A37.out).mono ?_
          (case side1 => repeat (first | exact (Kd.R_reads' HO163.out).2.2 | (with_reducible refine Kd.C_alloc ?_ _) | (with_reducible refine Kd.C_drewN ?_ _) | (with_reducible refine Kd.C_drew ?_)))
          (case side2 => exact (Kd.R_reads' HO163.out).2.1)
          rintro e w47 ⟨v165, rfl, ho0, hb⟩
          refine ⟨_, rfl, ?_⟩
          have n0_ := Aside0.mk (Kd.R_elder' q42_ (Kd.R_base ho0) hb)
          have n1_ := Aside0.mk (Kd.R_elder' (by (with_reducible repeat (first | apply Kd.R_alloc | apply Kd.R_drewN | apply Kd.R_drew)); exact HO163.out) (Kd.R_base ho0) hb)
          have n2_ := Aside0.mk (Kd.R_lower (Kd.R_new' (Kd.R_new' ho0 (Kd.R_lt q42_)) (Kd.R_lt (by (with_reducible repeat (first | apply Kd.R_alloc | apply Kd.R_drewN | apply Kd.R_drew)); exact HO163.out))) (below_size q105_))
          have n3_ := Aside0.mk (blk_below (g := gb145) (o := .cells #[.int .i64 a0_0, .slice A0_1 l0_1.length c0_1, .slice (some ad159) l0_2.length c0_2] 25 (0, 0)) q47_ hb)
          have n4_ := Aside0.mk (blk_below (g := gb147) (o := .cells #[.int .i64 3, .int .i64 a1, .int .i64 (wrap64 ((l0_1.length : Int) + (l0_2.length : Int))), .int .i64 a0_0, .int .i64 a2] 62 (0, 0)) q71_ hb)
          have n5_ := Aside0.mk (blk_below (g := gb160) (o := .cells #[.int .i64 ((rd_T57 l0_2 x51_2).f0.f0), .int .i64 ((rd_T57 l0_2 x51_2).f0.f1), .int .i64 ((rd_T57 l0_2 x51_2).f0.f2), .int .i64 ((rd_T57 l0_2 x51_2).f1)] 57 (0, 0)) (by (with_reducible repeat (first | refine blk_drewN ?_ _ | refine blk_drew ?_ | refine blk_alloc ?_ _)); exact BK160.out) hb)
          have n6_ := Aside0.mk (below_step q105_ hb)
          clear HO_9
          clear HO163
          clear BK145
          clear BK147
          clear BK160
          clear HB
          have HO_9 := n0_
          have HO163 := n1_
          have HO166 := n2_
          have BK145 := n3_
          have BK147 := n4_
          have BK160 := n5_
          have HB := n6_
          clear n0_ n1_ n2_ n3_ n4_ n5_ n6_
          (try clear hb)
          (try clear hb2)
          (try clear hk)
          (try clear hi)
          (try clear ho0)
          refine hK.out _ _ ⟨(blk_cell BK160.out 0).trans rfl, (blk_cell BK160.out 1).trans rfl, (blk_cell BK160.out 2).trans rfl, (blk_cell BK160.out 3).trans rfl⟩ (fun hHeld => ?_)
          clear hK K
          refine norm_ (a' := ?_) ?_ ?_
          rotate_left
          ·show Act.put _ (some 61) _ = _
           simp only [Act.put, List.setIfInBounds_toArray, List.set_cons_zero, List.set_cons_succ, i64_w, i32_w]
           rfl
          refine pure_ (i := 7) (N := some 9) (v := ?_) (a' := ?_) (bl_ 8 255) rfl rfl (any_of HT_.out q8_) (fun _ _ _ h => h) (Or.inl ⟨by rfl, ?_⟩) ?_ ?_
          rotate_left
          ·intro w'
           go_simp
           with_reducible rfl
          rotate_left
          ·simp only [Act.put, List.setIfInBounds_toArray, List.set_cons_zero, List.set_cons_succ, i64_w, i32_w]
           rfl
          refine done_ (done_of HT_.out q8_) ?_
          try go_wp2
          go_roundg k2
          case measure => have := HK1.out; have := HK2.out; omega
          case rel => exact ⟨(t164), (wrap64 (x51_2 + 1)), q14_, H', ⟨q189_⟩, ⟨by (with_reducible repeat (first | apply Kd.R_alloc | apply Kd.R_drewN | apply Kd.R_drew)); exact Kd.R_mono HO166.out (fun _ hk => trivial)⟩, ⟨q47_⟩, ⟨q71_⟩, ⟨q105_⟩⟩
         ·rw [if_neg c35] at H
          exact absurd H (by simp)
        ·rw [if_neg c34] at H
         exact absurd H (by simp)
       ·rw [if_neg c33] at H
        have c33b0 : decide (x51_2 < (l0_2.length : Int)) = false := decide_eq_false c33
        clear c33
        by_cases c48 : a0_0 > 0
        ·rw [if_pos c48] at H
         have c48b0 : decide (0 < a0_0) = true := decide_eq_true c48
         clear c48
         replace H := Option.bind_eq_some_iff.mp H
         obtain ⟨⟨t167, t170⟩, A490, H⟩ := H
         replace H : (some (t167, t170)) = some (r1, r2) := H
         have A49 := Aside0.mk A490
         clear A490
         simp only [Option.some.injEq, Prod.mk.injEq] at H
         obtain ⟨rfl, rfl⟩ := H
         have hnb50 := NB145_147.out
         have hnc50 := NB147_145.out
         have hcz51_0 : wr.cell? ⟨gb145, 0, none⟩ = some (.int .i64 a0_0) := (blk_cell BK145.out 0).trans rfl
         have hcz51_1 : wr.cell? ⟨gb145, 1, none⟩ = some (.slice A0_1 l0_1.length c0_1) := (blk_cell BK145.out 1).trans rfl
         have hcz51_2 : wr.cell? ⟨gb145, 2, none⟩ = some (.slice A0_2 l0_2.length c0_2) := (blk_cell BK145.out 2).trans rfl
         have hfz51_0 := blk_frozen BK145.out 0
         have hfz51_1 := blk_frozen BK145.out 1
         have hfz51_2 := blk_frozen BK145.out 2
         have hcz52_0 : wr.cell? ⟨gb147, 0, none⟩ = some (.int .i64 3) := (blk_cell BK147.out 0).trans rfl
         have hcz52_1 : wr.cell? ⟨gb147, 1, none⟩ = some (.int .i64 a1) := (blk_cell BK147.out 1).trans rfl
         have hcz52_2 : wr.cell? ⟨gb147, 2, none⟩ = some (.int .i64 (wrap64 ((l0_1.length : Int) + (l0_2.length : Int)))) := (blk_cell BK147.out 2).trans rfl
         have hcz52_3 : wr.cell? ⟨gb147, 3, none⟩ = some (.int .i64 a0_0) := (blk_cell BK147.out 3).trans rfl
         have hcz52_4 : wr.cell? ⟨gb147, 4, none⟩ = some (.int .i64 a2) := (blk_cell BK147.out 4).trans rfl
         have hfz52_0 := blk_frozen BK147.out 0
         have hfz52_1 := blk_frozen BK147.out 1
         have hfz52_2 := blk_frozen BK147.out 2
         have hfz52_3 := blk_frozen BK147.out 3
         have hfz52_4 := blk_frozen BK147.out 4
         obtain ⟨Ao53, co53, eo53⟩ := Kd.R_slice HO_9.out
         subst eo53
         go_wp2_with (first | ((with_reducible refine gate_callee (f := 34) rfl ?_); refine goesL_ (some 69) rfl rfl Try.func34 q8_ rfl #[.agg #[.int .i64 4, .int .i64 a1, .int .i64 (wrap64 ((l0_1.length : Int) + (l0_2.length : Int))), .int .i64 a0_0, .int .i64 a2], .slice Ao53 x9_2.length co53] rfl q1_ ?_; (with_reducible refine (seal_Seal.calls 4 a1 (wrap64 ((l0_1.length : Int) + (l0_2.length : Int))) a0_0 a2 _ _ x9_2 t167 t170 _ ?side1 ?side2 A49.out).mono ?_); (case side1 => refine (Kd.R_reads' (e := 5) (base := w.heap.size) (ok := fun k_ => True) (n := x9_2.length) (c := co53) ?_).2.2; exact q190_); (case side2 => exact (Kd.R_reads' HO_9.out).2.1); rintro e w54 ⟨v168, rfl, ho0, hb⟩; refine ⟨_, rfl, ?_⟩; have n0_ := Aside0.mk (Kd.R_elder' q190_ (Kd.R_base ho0) hb); have n1_ := Aside0.mk (Kd.R_lower (Kd.R_new' ho0 (Kd.R_lt q190_)) (below_size q51_)); have n2_ := Aside0.mk (blk_below (g := gb145) (o := .cells #[.int .i64 a0_0, .slice A0_1 l0_1.length c0_1, .slice A0_2 l0_2.length c0_2] 25 (0, 0)) (by (with_reducible repeat (first | refine blk_drewN ?_ _ | refine blk_drew ?_ | refine blk_alloc ?_ _)); refine blk_far ?_ NB145_147.out _; (with_reducible repeat (first | refine blk_drewN ?_ _ | refine blk_drew ?_ | refine blk_alloc ?_ _)); exact BK145.out) hb); have n3_ := Aside0.mk (blk_below (g := gb147) (o := .cells #[.int .i64 4, .int .i64 a1, .int .i64 (wrap64 ((l0_1.length : Int) + (l0_2.length : Int))), .int .i64 a0_0, .int .i64 a2] 62 (0, 0)) (by (with_reducible repeat (first | refine blk_drewN ?_ _ | refine blk_drew ?_ | refine blk_alloc ?_ _)); refine blk_put (cs := #[.int .i64 3, .int .i64 a1, .int .i64 (wrap64 ((l0_1.length : Int) + (l0_2.length : Int))), .int .i64 a0_0, .int .i64 a2]) ?_ 0 _ rfl; (with_reducible repeat (first | refine blk_drewN ?_ _ | refine blk_drew ?_ | refine blk_alloc ?_ _)); exact BK147.out) hb); have n4_ := Aside0.mk (below_step q51_ hb); clear HO_9; clear BK145; clear BK147; clear HB; have HO_9 := n0_; have HO169 := n1_; have BK145 := n2_; have BK147 := n3_; have HB := n4_; clear n0_ n1_ n2_ n3_ n4_; (try clear hb); (try clear hb2); (try clear hk); (try clear hi); (try clear ho0)))
         go_ret2
         exact ⟨_, by first | rfl | (simp [errW_none, errW_some] <;> rfl) | (simp [*, errW_none, errW_some] <;> rfl), by (with_reducible repeat (first | apply Kd.R_alloc | apply Kd.R_drewN | apply Kd.R_drew)); exact Kd.R_mono HO169.out (fun _ hk => trivial), by repeat (first | (with_reducible first | exact HB.out | apply below_alloc | apply pw_below_drewN | apply below_drew1 | refine below_set ?_ GE145.out | refine below_set ?_ GE147.out) | exact HB.out)⟩
        ·rw [if_neg c48] at H
         have c48b0 : decide (0 < a0_0) = false := decide_eq_false c48
         clear c48
         replace H := Option.bind_eq_some_iff.mp H
         obtain ⟨⟨t171, t174⟩, A550, H⟩ := H
         replace H : (some (t171, t174)) = some (r1, r2) := H
         have A55 := Aside0.mk A550
         clear A550
         simp only [Option.some.injEq, Prod.mk.injEq] at H
         obtain ⟨rfl, rfl⟩ := H
         have hnb56 := NB145_147.out
         have hnc56 := NB147_145.out
         have hcz57_0 : wr.cell? ⟨gb145, 0, none⟩ = some (.int .i64 a0_0) := (blk_cell BK145.out 0).trans rfl
         have hcz57_1 : wr.cell? ⟨gb145, 1, none⟩ = some (.slice A0_1 l0_1.length c0_1) := (blk_cell BK145.out 1).trans rfl
         have hcz57_2 : wr.cell? ⟨gb145, 2, none⟩ = some (.slice A0_2 l0_2.length c0_2) := (blk_cell BK145.out 2).trans rfl
         have hfz57_0 := blk_frozen BK145.out 0
         have hfz57_1 := blk_frozen BK145.out 1
         have hfz57_2 := blk_frozen BK145.out 2
         have hcz58_0 : wr.cell? ⟨gb147, 0, none⟩ = some (.int .i64 3) := (blk_cell BK147.out 0).trans rfl
         have hcz58_1 : wr.cell? ⟨gb147, 1, none⟩ = some (.int .i64 a1) := (blk_cell BK147.out 1).trans rfl
         have hcz58_2 : wr.cell? ⟨gb147, 2, none⟩ = some (.int .i64 (wrap64 ((l0_1.length : Int) + (l0_2.length : Int)))) := (blk_cell BK147.out 2).trans rfl
         have hcz58_3 : wr.cell? ⟨gb147, 3, none⟩ = some (.int .i64 a0_0) := (blk_cell BK147.out 3).trans rfl
         have hcz58_4 : wr.cell? ⟨gb147, 4, none⟩ = some (.int .i64 a2) := (blk_cell BK147.out 4).trans rfl
         have hfz58_0 := blk_frozen BK147.out 0
         have hfz58_1 := blk_frozen BK147.out 1
         have hfz58_2 := blk_frozen BK147.out 2
         have hfz58_3 := blk_frozen BK147.out 3
         have hfz58_4 := blk_frozen BK147.out 4
         obtain ⟨Ao59, co59, eo59⟩ := Kd.R_slice HO_9.out
         subst eo59
         go_wp2_with (first | ((with_reducible refine gate_callee (f := 34) rfl ?_); refine goesL_ (some 69) rfl rfl Try.func34 q8_ rfl #[.agg #[.int .i64 3, .int .i64 a1, .int .i64 (wrap64 ((l0_1.length : Int) + (l0_2.length : Int))), .int .i64 a0_0, .int .i64 a2], .slice Ao59 x9_2.length co59] rfl q1_ ?_; (with_reducible refine (seal_Seal.calls 3 a1 (wrap64 ((l0_1.length : Int) + (l0_2.length : Int))) a0_0 a2 _ _ x9_2 t171 t174 _ ?side1 ?side2 A55.out).mono ?_); (case side1 => repeat (first | exact (Kd.R_reads' HO_9.out).2.2 | (with_reducible refine Kd.C_alloc ?_ _) | (with_reducible refine Kd.C_drewN ?_ _) | (with_reducible refine Kd.C_drew ?_))); (case side2 => exact (Kd.R_reads' HO_9.out).2.1); rintro e w60 ⟨v172, rfl, ho0, hb⟩; refine ⟨_, rfl, ?_⟩; have n0_ := Aside0.mk (Kd.R_elder' q42_ (Kd.R_base ho0) hb); have n1_ := Aside0.mk (Kd.R_lower (Kd.R_new' ho0 (Kd.R_lt q42_)) (below_size q51_)); have n2_ := Aside0.mk (blk_below (g := gb145) (o := .cells #[.int .i64 a0_0, .slice A0_1 l0_1.length c0_1, .slice A0_2 l0_2.length c0_2] 25 (0, 0)) q47_ hb); have n3_ := Aside0.mk (blk_below (g := gb147) (o := .cells #[.int .i64 3, .int .i64 a1, .int .i64 (wrap64 ((l0_1.length : Int) + (l0_2.length : Int))), .int .i64 a0_0, .int .i64 a2] 62 (0, 0)) q71_ hb); have n4_ := Aside0.mk (below_step q51_ hb); clear HO_9; clear BK145; clear BK147; clear HB; have HO_9 := n0_; have HO173 := n1_; have BK145 := n2_; have BK147 := n3_; have HB := n4_; clear n0_ n1_ n2_ n3_ n4_; (try clear hb); (try clear hb2); (try clear hk); (try clear hi); (try clear ho0)))
         go_ret2
         exact ⟨_, by first | rfl | (simp [errW_none, errW_some] <;> rfl) | (simp [*, errW_none, errW_some] <;> rfl), by (with_reducible repeat (first | apply Kd.R_alloc | apply Kd.R_drewN | apply Kd.R_drew)); exact Kd.R_mono HO173.out (fun _ hk => trivial), by repeat (first | (with_reducible first | exact HB.out | apply below_alloc | apply pw_below_drewN | apply below_drew1 | refine below_set ?_ GE145.out | refine below_set ?_ GE147.out) | exact HB.out)⟩
 ·replace c5 := Bool.eq_false_iff.mpr c5
  subst c5
  have H1 : (some (([] : List Int), 1)) = some (r1, r2) := by rw [if_neg (show ¬ (false = true) by decide)] at H; exact H
  clear H
  have H := H1
  clear H1
  simp only [Option.some.injEq, Prod.mk.injEq] at H
  obtain ⟨rfl, rfl⟩ := H
  go_enter Try.func13, Try.ntmps13
  go_wp2_with (first | ((with_reducible refine gate_dst (N := 3) rfl ?_); refine box_event ?hg (N := 3) ?hd (cs := #[.int .i64 a0_0, .slice A0_1 l0_1.length c0_1, .slice A0_2 l0_2.length c0_2]) (t := 25) ?hr ?_; (case hd => rfl); (case hg => rfl); (case hr => first | (go_simp; done) | (go_simp; rfl)); intro gb145 hg w61 hbox hb; have n0_ := Aside0.mk (below_step q0_ hb); have n1_ := Aside0.mk (hbox); have n2_ := Aside0.mk ((by rw [hg]; exact (below_size q0_) : w.heap.size ≤ gb145)); have n3_ := Aside0.mk ((by rw [hg]; exact (below_size q0_) : w.heap.size ≤ gb145)); clear HB; have HB := n0_; have BK145 := n1_; have GW145 := n2_; have GE145 := n3_; clear n0_ n1_ n2_ n3_; clear hb hbox hg; have hcz62_0 : w61.cell? ⟨gb145, 0, none⟩ = some (.int .i64 a0_0) := (blk_cell BK145.out 0).trans rfl; have hcz62_1 : w61.cell? ⟨gb145, 1, none⟩ = some (.slice A0_1 l0_1.length c0_1) := (blk_cell BK145.out 1).trans rfl; have hcz62_2 : w61.cell? ⟨gb145, 2, none⟩ = some (.slice A0_2 l0_2.length c0_2) := (blk_cell BK145.out 2).trans rfl; have hfz62_0 := blk_frozen BK145.out 0; have hfz62_1 := blk_frozen BK145.out 1; have hfz62_2 := blk_frozen BK145.out 2) | ((with_reducible refine gate_callee (f := 11) rfl ?_); refine goesL_ (some 15) rfl rfl Try.func11 q8_ rfl #[.agg #[.int .i64 a0_0, .slice A0_1 l0_1.length c0_1, .slice A0_2 l0_2.length c0_2]] rfl q1_ ?_; (with_reducible refine (node_May.calls k a0_0 _ _ l0_1 _ _ l0_2 false _ ?side1 ?side2 ?side3 ?side4 A4.out).mono ?_); (case side1 => repeat (first | exact (Kd.C_below HR0_1.out HB.out) | (with_reducible refine Kd.C_alloc ?_ _) | (with_reducible refine Kd.C_drewN ?_ _) | (with_reducible refine Kd.C_drew ?_))); (case side2 => exact HC0_1.out); (case side3 => repeat (first | exact (Kd.C_below HR0_2.out HB.out) | (with_reducible refine Kd.C_alloc ?_ _) | (with_reducible refine Kd.C_drewN ?_ _) | (with_reducible refine Kd.C_drew ?_))); (case side4 => exact HC0_2.out); rintro e w63 ⟨rfl, hb⟩; refine ⟨_, rfl, ?_⟩; have n0_ := Aside0.mk (blk_below (g := gb145) (o := .cells #[.int .i64 a0_0, .slice A0_1 l0_1.length c0_1, .slice A0_2 l0_2.length c0_2] 25 (0, 0)) q47_ hb); have n1_ := Aside0.mk (below_step q141_ hb); clear BK145; clear HB; have BK145 := n0_; have HB := n1_; clear n0_ n1_; (try clear hb); (try clear hb2); (try clear hk); (try clear hi)))
  go_ret2
  exact ⟨_, by first | rfl | (simp [errW_none, errW_some] <;> rfl) | (simp [*, errW_none, errW_some] <;> rfl), by first | exact Kd.R_nil _ _ _ _ _ | exact Kd.N_nil _ _ _ _ _ | exact Kd.V_nil _ _ _ _ _ | exact Kd.Q_nil _ _ _ _ _ | exact Kd.S_nil _ _ _ _ _, by repeat (first | (with_reducible first | exact HB.out | apply below_alloc | apply pw_below_drewN | apply below_drew1 | refine below_set ?_ GE145.out) | exact HB.out)⟩

end Go.Proofs.Ytcjnknpbikfimaa.P
