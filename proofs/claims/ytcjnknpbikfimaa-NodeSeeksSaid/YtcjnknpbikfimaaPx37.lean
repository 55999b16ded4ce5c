/- Functions and contracts, written by a program (mkprint.py, a wrapper of ours around the print); texts between GIVEN marks are ours. -/
import Derived.Test.YtcjnknpbikfimaaPx0
namespace Go.Proofs.Ytcjnknpbikfimaa.P
open Go.RowKit Go.Proofs.YtcjnknpbikfimaaW.PrintWords Go.Proofs.YtcjnknpbikfimaaW.PrintLast Go.Proofs.YtcjnknpbikfimaaW.PrintMore
attribute [local go_sem] max2_int min2_int max_two min_two max_three min_three max_four min_four   -- for this text's walks alone
set_option linter.unusedVariables false
set_option linter.unusedSimpArgs false
theorem q40_ {P : Prop} (h : P := by repeat (first | (with_reducible first | exact HB.out | apply below_alloc | apply pw_below_drewN | apply below_drew1 | refine below_set ?_ GE615.out) | exact HB.out)) : P := h
theorem q48_ {P : Prop} (h : P := by (with_reducible repeat (first | refine blk_drewN ?_ _ | refine blk_drew ?_ | refine blk_alloc ?_ _)); exact BK615.out) : P := h
theorem q56_ {P : Prop} (h : P := by (with_reducible repeat (first | refine blk_drewN ?_ _ | refine blk_drew ?_ | refine blk_alloc ?_ _)); refine blk_far ?_ NB615_622.out _; (with_reducible repeat (first | refine blk_drewN ?_ _ | refine blk_drew ?_ | refine blk_alloc ?_ _)); refine blk_far ?_ NB615_622.out _; (with_reducible repeat (first | refine blk_drewN ?_ _ | refine blk_drew ?_ | refine blk_alloc ?_ _)); refine blk_far ?_ NB615_622.out _; (with_reducible repeat (first | refine blk_drewN ?_ _ | refine blk_drew ?_ | refine blk_alloc ?_ _)); refine blk_far ?_ NB615_622.out _; (with_reducible repeat (first | refine blk_drewN ?_ _ | refine blk_drew ?_ | refine blk_alloc ?_ _)); exact BK615.out) : P := h
theorem q104_ {P : Prop} (h : P := by repeat (first | (with_reducible first | exact HB.out | apply below_alloc | apply pw_below_drewN | apply below_drew1 | refine below_set ?_ GE615.out | refine below_set ?_ GE622.out) | exact HB.out)) : P := h
theorem q153_ {P : Prop} (h : P := by have := World.block_lt_of_cell? _ _ hx623_0; first | rwa [add_block] at this | exact this) : P := h
theorem q159_ {P : Prop} (h : P := by (with_reducible repeat (first | apply Kd.R_alloc | apply Kd.R_drewN | apply Kd.R_drew)); exact Kd.R_mono (Kd.R_far (p := ⟨gb622, 3, none⟩) (Kd.R_far (p := ⟨gb622, 2, none⟩) (Kd.R_far (p := ⟨gb622, 1, none⟩) (Kd.R_far (p := ⟨gb622, 0, none⟩) (Kd.R_types HO_3.out BK622.out (by decide)) (fun _ hk => hk.2) (.int .i64 ((rd_T52 l0_1 x25_2).f0.f0))) (fun _ hk => hk.2) (.int .i64 ((rd_T52 l0_1 x25_2).f0.f1))) (fun _ hk => hk.2) (.int .i64 ((rd_T52 l0_1 x25_2).f0.f2))) (fun _ hk => hk.2) (.slice (some ad623) ((rd_T52 l0_1 x25_2).f1).length c621_3)) (fun _ hk => trivial)) : P := h
theorem q161_ {P : Prop} (h : P := by (with_reducible repeat (first | apply Kd.R_alloc | apply Kd.R_drewN | apply Kd.R_drew)); exact Kd.R_mono (Kd.R_far (p := ⟨gb622, 3, none⟩) (Kd.R_far (p := ⟨gb622, 2, none⟩) (Kd.R_far (p := ⟨gb622, 1, none⟩) (Kd.R_far (p := ⟨gb622, 0, none⟩) (Kd.R_types HO_3.out BK622.out (by decide)) (fun _ hk => hk.2) (.int .i64 ((rd_T52 l0_1 x25_2).f0.f0))) (fun _ hk => hk.2) (.int .i64 ((rd_T52 l0_1 x25_2).f0.f1))) (fun _ hk => hk.2) (.int .i64 ((rd_T52 l0_1 x25_2).f0.f2))) (fun _ hk => hk.2) (.slice A621_3 ((rd_T52 l0_1 x25_2).f1).length c621_3)) (fun _ hk => trivial)) : P := h
theorem q187_ {P : Prop} (h : P := by rw [hg]; exact Nat.ne_of_lt (blk_lt (g := gb615) (o := .cells #[.int .i64 a0_0, .slice (some ad621) l0_1.length c0_1, .slice A0_2 l0_2.length c0_2] 25 (0, 0)) q48_)) : P := h
theorem q188_ {P : Prop} (h : P := by rw [hg]; exact Nat.ne_of_gt (blk_lt (g := gb615) (o := .cells #[.int .i64 a0_0, .slice (some ad621) l0_1.length c0_1, .slice A0_2 l0_2.length c0_2] 25 (0, 0)) q48_)) : P := h
theorem q223_ {P : Prop} (h : P := by repeat (first | (with_reducible first | exact HB.out | apply below_alloc | apply pw_below_drewN | apply below_drew1 | refine below_set ?_ GE615.out | refine below_set ?_ GE617.out) | exact HB.out)) : P := h

/-! ### node_Kids: function 20 -/
mutual
def node_Kids.l0 : Nat → List Int → List (S57) → Int → Int → Int → List (S52) → List (S57) → Option (List Int)
 | 0, _, _, _, _, _, _, _ => none
 | k + 1, x3, x10, x11, x12, x616000, x616001, x616002 => if x12 < x11 then (if 0 ≤ x12 then (if x12 < (x10.length : Int) then (if x3.length < 17592186044416 then (node_Kids.l0 k (x3 ++ [(rd_T57 x10 x12).f1]) x10 x11 (wrap64 (x12 + 1)) x616000 x616001 x616002) else (none)) else (none)) else (none)) else (node_Kids.l1 k x3 x616001 (x616001.length : Int) 0)
def node_Kids.l1 : Nat → List Int → List (S52) → Int → Int → Option (List Int)
 | 0, _, _, _, _ => none
 | k + 1, x3, x23, x24, x25 => if x25 < x24 then (if 0 ≤ x25 then (if x25 < (x23.length : Int) then (if ((rd_T52 x23 x25).f0.f1) = 3 then (if (((rd_T52 x23 x25).f1).length : Int) = 3 then (if 0 < (((rd_T52 x23 x25).f1).length : Int) then (if (rd ((rd_T52 x23 x25).f1) 0) = 1 then (if 1 < (((rd_T52 x23 x25).f1).length : Int) then (if 2 < (((rd_T52 x23 x25).f1).length : Int) then (if x3.length < 17592186044416 then (node_Kids.l1 k (x3 ++ [Go.bits .or .i64 (wrap64 ((wrap64 (rd ((rd_T52 x23 x25).f1) 1)) * 256)) (wrap64 (rd ((rd_T52 x23 x25).f1) 2))]) x23 x24 (wrap64 (x25 + 1))) else (none)) else (none)) else (none)) else (node_Kids.l1 k x3 x23 x24 (wrap64 (x25 + 1)))) else (none)) else (node_Kids.l1 k x3 x23 x24 (wrap64 (x25 + 1)))) else (node_Kids.l1 k x3 x23 x24 (wrap64 (x25 + 1)))) else (none)) else (none)) else (some x3)
end
def node_Kids.f (k : Nat) (a0_0 : Int) (l0_1 : List (S52)) (l0_2 : List (S57)) : Option (List Int) := node_Kids.l0 k ([] : List Int) l0_2 (l0_2.length : Int) 0 a0_0 l0_1 l0_2
theorem node_Kids.mono_l : ∀ k, (∀ y0 y1 y2 y3 y4 y5 y6, LeO (node_Kids.l0 k y0 y1 y2 y3 y4 y5 y6) (node_Kids.l0 (k + 1) y0 y1 y2 y3 y4 y5 y6)) ∧ (∀ y0 y1 y2 y3, LeO (node_Kids.l1 k y0 y1 y2 y3) (node_Kids.l1 (k + 1) y0 y1 y2 y3))
 | 0 => ⟨fun _ _ _ _ _ _ _ r h => by simp [node_Kids.l0] at h, fun _ _ _ _ r h => by simp [node_Kids.l1] at h⟩
 | k + 1 => by
  obtain ⟨ih0, ih1⟩ := node_Kids.mono_l k
  refine ⟨?_, ?_⟩
  ·intro y0 y1 y2 y3 y4 y5 y6
   unfold node_Kids.l0
   repeat' first
   | (with_reducible exact ih0 _ _ _ _ _ _ _)
   | (with_reducible exact ih1 _ _ _ _)
   | (with_reducible exact LeO.refl _)
   | (with_reducible exact LeO.none _)
   | (with_reducible refine LeO.ite ?_ ?_)
   | (with_reducible refine LeO.bind ?_ (fun _ => ?_))
   | exact ih0 _ _ _ _ _ _ _
   | exact ih1 _ _ _ _
   | exact LeO.none _
   | refine LeO.ite ?_ ?_
   | refine LeO.bind ?_ (fun _ => ?_)
  ·intro y0 y1 y2 y3
   unfold node_Kids.l1
   repeat' first
   | (with_reducible exact ih0 _ _ _ _ _ _ _)
   | (with_reducible exact ih1 _ _ _ _)
   | (with_reducible exact LeO.refl _)
   | (with_reducible exact LeO.none _)
   | (with_reducible refine LeO.ite ?_ ?_)
   | (with_reducible refine LeO.bind ?_ (fun _ => ?_))
   | exact ih0 _ _ _ _ _ _ _
   | exact ih1 _ _ _ _
   | exact LeO.none _
   | refine LeO.ite ?_ ?_
   | refine LeO.bind ?_ (fun _ => ?_)
theorem node_Kids.mono : ∀ a0 a1 a2 k, LeO (node_Kids.f k a0 a1 a2) (node_Kids.f (k + 1) a0 a1 a2) := by
 intro a0 a1 a2 k
 obtain ⟨ih0, ih1⟩ := node_Kids.mono_l k
 unfold node_Kids.f
 repeat' first
   | (with_reducible exact ih0 _ _ _ _ _ _ _)
   | (with_reducible exact ih1 _ _ _ _)
   | (with_reducible exact LeO.refl _)
   | (with_reducible exact LeO.none _)
   | (with_reducible refine LeO.ite ?_ ?_)
   | (with_reducible refine LeO.bind ?_ (fun _ => ?_))
   | exact ih0 _ _ _ _ _ _ _
   | exact ih1 _ _ _ _
   | exact LeO.none _
   | refine LeO.ite ?_ ?_
   | refine LeO.bind ?_ (fun _ => ?_)
def node_Kids.T12 : Bool × List (List Nat × List Nat) := (true, [([], []), ([], []), ([1], [1]), ([2], [2]), ([3], [3]), ([4], [4]), ([], []), ([6], [6]), ([7], [7]), ([8], [8]), ([5, 9], [5, 9]), ([10], [10]), ([0, 11], [0, 11]), ([12, 12, 0, 1, 2, 3, 4, 5, 6, 7, 8, 9, 10, 11, 12], [0, 12])])
def node_Kids.B12 : List Nat := [0, 0, 2, 6, 14, 30, 0, 64, 192, 448, 1022, 2046, 4095, 8191]
theorem node_Kids.tab12 : rtab .any (opsOf Try.f20 12) = node_Kids.T12 := by kernel_rfl
theorem node_Kids.bits12 : waitsOk node_Kids.T12.2 node_Kids.B12 = true := by kernel_rfl
set_option maxHeartbeats 8000000 in
set_option maxRecDepth 100000 in
theorem node_Kids.calls (k : Nat) (a0_0 : Int) (A0_1 : Option Addr) (c0_1 : Nat) (l0_1 : List (S52)) (A0_2 : Option Addr) (c0_2 : Nat) (l0_2 : List (S57)) (r : List Int) (w : World) (hr0_1 : Kd.C k52 w A0_1 l0_1.length l0_1) (hc0_1 : l0_1.length ≤ c0_1) (hr0_2 : Kd.C k57 w A0_2 l0_2.length l0_2) (hc0_2 : l0_2.length ≤ c0_2) (h : node_Kids.f k a0_0 l0_1 l0_2 = some r) :
  Calls Try.prog 20 #[.agg #[.int .i64 a0_0, .slice A0_1 l0_1.length c0_1, .slice A0_2 l0_2.length c0_2]] w fun e w' => ∃ v0_ : Value, e = .returned (v0_) ∧ Kd.R (Kd.int .i64) 3 w' w.heap.size (fun _ => True) v0_ r ∧ Below w.heap.size w w' := by
 have hu25 := Try.underlying25
 have hu57 := Try.underlying57
 have hu52 := Try.underlying52
 have HR0_1 := Aside0.mk hr0_1
 have HC0_1 := Aside0.mk hc0_1
 clear hr0_1 hc0_1
 have HR0_2 := Aside0.mk hr0_2
 have HC0_2 := Aside0.mk hc0_2
 clear hr0_2 hc0_2
 have HB := Aside0.mk (Below.refl w.heap.size w)
 have H : (node_Kids.l0 k ([] : List Int) l0_2 (l0_2.length : Int) 0 a0_0 l0_1 l0_2) = some r := h
 clear h
 have H' := Aside0.mk H
 clear H
 go_enter Try.func20, Try.ntmps20
 go_wp2_with (first | ((with_reducible refine gate_dst (N := 1) rfl ?_); (try (refine gate_guard (by rfl) ?_; dsimp only)); refine box_event ?hg (N := 1) ?hd (cs := #[.int .i64 a0_0, .slice A0_1 l0_1.length c0_1, .slice A0_2 l0_2.length c0_2]) (t := 25) ?hr ?_; (case hd => rfl); (case hg => rfl); (case hr => first | (go_simp; done) | (go_simp; rfl)); intro gb615 hg w2 hbox hb; have n0_ := Aside0.mk (below_step q0_ hb); have n1_ := Aside0.mk (hbox); have n2_ := Aside0.mk ((by rw [hg]; exact (below_size q0_) : w.heap.size ≤ gb615)); have n3_ := Aside0.mk ((by rw [hg]; exact (below_size q0_) : w.heap.size ≤ gb615)); clear HB; have HB := n0_; have BK615 := n1_; have GW615 := n2_; have GE615 := n3_; clear n0_ n1_ n2_ n3_; clear hb hbox hg; have hcz3_0 : w2.cell? ⟨gb615, 0, none⟩ = some (.int .i64 a0_0) := (blk_cell BK615.out 0).trans rfl; have hcz3_1 : w2.cell? ⟨gb615, 1, none⟩ = some (.slice A0_1 l0_1.length c0_1) := (blk_cell BK615.out 1).trans rfl; have hcz3_2 : w2.cell? ⟨gb615, 2, none⟩ = some (.slice A0_2 l0_2.length c0_2) := (blk_cell BK615.out 2).trans rfl; have hfz3_0 := blk_frozen BK615.out 0; have hfz3_1 := blk_frozen BK615.out 1; have hfz3_2 := blk_frozen BK615.out 2))
 go_loopg [3, 12] k (fun kq v3 v12 w' => ∃ (x3_1 : List Int) (x12_1 : Int), v12 = .int .i64 x12_1 ∧ Aside0 (node_Kids.l0 kq x3_1 l0_2 (l0_2.length : Int) x12_1 a0_0 l0_1 l0_2 = some r) ∧ Aside0 (kq ≤ k) ∧ Aside0 (Kd.R (Kd.int .i64) 3 w' w.heap.size (fun _ => True) v3 x3_1) ∧ Aside0 (w'.heap[gb615]? = some (.cells #[.int .i64 a0_0, (.slice A0_1 l0_1.length c0_1), (.slice A0_2 l0_2.length c0_2)] 25 (0, 0))) ∧ Aside0 (Below w.heap.size w w'))
 case atStart => exact ⟨(([] : List Int)), (0), q14_, H', ⟨Nat.le_refl _⟩, ⟨q214_⟩, ⟨q48_⟩, ⟨q40_⟩⟩
 case round =>
  clear H'
  try clear c2
  try clear p2
  try clear hcz3_0
  try clear hcz3_1
  try clear hcz3_2
  try clear hfz3_0
  try clear hfz3_1
  try clear hfz3_2
  obtain ⟨x3_1, x12_1, rfl, HA, HK1, HO_3, BK615, HB⟩ := hrel
  cases gk with
  | zero => exact absurd (show none = some _ from HA.out) (by simp)
  | succ k1 =>
   have H := HA.out
   clear HA
   simp only [node_Kids.l0] at H
   by_cases c4 : x12_1 < (l0_2.length : Int)
   ·rw [if_pos c4] at H
    have c4b0 : decide (x12_1 < (l0_2.length : Int)) = true := decide_eq_true c4
    clear c4
    by_cases c5 : 0 ≤ x12_1
    ·rw [if_pos c5] at H
     have c5b0 : decide (0 ≤ x12_1) = true := decide_eq_true c5
     clear c5
     by_cases c6 : x12_1 < (l0_2.length : Int)
     ·rw [if_pos c6] at H
      have c6b0 : decide (x12_1 < (l0_2.length : Int)) = true := decide_eq_true c6
      clear c6
      by_cases c7 : x3_1.length < 17592186044416
      ·rw [if_pos c7] at H
       have LMc7 := Aside0.mk c7
       clear c7
       obtain ⟨y618, hy618⟩ : ∃ y_ : List Int, y_ = (x3_1 ++ [(rd_T57 l0_2 x12_1).f1]) := ⟨_, rfl⟩
       replace H : (node_Kids.l0 k1 y618 l0_2 (l0_2.length : Int) (wrap64 (x12_1 + 1)) a0_0 l0_1 l0_2) = some r := by first | (rw [hy618]; with_reducible exact H) | (have H2_ := (Option.bind_some _ _).symm.trans H; rw [hy618]; with_reducible exact H2_) | (have H2_ := (Option.bind_some _ _).symm.trans H; with_reducible exact H2_) | with_reducible exact H | (rw [hy618]; exact H) | exact H
       have Ny618 := Aside0.mk hy618
       clear hy618
       have H' := Aside0.mk H
       clear H
       have p616 : 0 ≤ (x12_1 : Int) := of_decide_eq_true q4_
       have q616 : x12_1 < (l0_2.length : Int) := of_decide_eq_true q4_
       obtain ⟨ad616, e616, hx616_0, hx616_1, hx616_2, hx616_3⟩ := at_T57 HR0_2.out x12_1 p616 q616
       cases e616
       replace hx616_0 := (HB.out.cell (World.block_lt_of_cell? w _ hx616_0)).trans hx616_0
       replace hx616_1 := (HB.out.cell (World.block_lt_of_cell? w _ hx616_1)).trans hx616_1
       replace hx616_2 := (HB.out.cell (World.block_lt_of_cell? w _ hx616_2)).trans hx616_2
       replace hx616_3 := (HB.out.cell (World.block_lt_of_cell? w _ hx616_3)).trans hx616_3
       replace p616 := eq_true p616
       replace q616 := eq_true q616
       go_wp2_with (first | ((with_reducible refine gate_dst (N := 5) rfl ?_); (try (refine gate_guard (by rfl) ?_; dsimp only)); refine box_event ?hg (N := 5) ?hd (cs := #[.int .i64 0, .int .i64 0, .int .i64 0, .int .i64 0]) (t := 57) ?hr ?_; (case hd => rfl); (case hg => rfl); (case hr => first | (go_simp; done) | (go_simp; rfl)); intro gb617 hg w8 hbox hb; have n0_ := Aside0.mk (Kd.R_below q80_ hb); have n1_ := Aside0.mk (blk_below (g := gb615) (o := .cells #[.int .i64 a0_0, .slice A0_1 l0_1.length c0_1, .slice (some ad616) l0_2.length c0_2] 25 (0, 0)) q48_ hb); have n2_ := Aside0.mk (below_step q40_ hb); have n3_ := Aside0.mk (hbox); have n4_ := Aside0.mk ((by rw [hg]; exact (below_size q40_) : w.heap.size ≤ gb617)); have n5_ := Aside0.mk ((by rw [hg]; exact (below_size q40_) : w.heap.size ≤ gb617)); have n6_ := Aside0.mk ((by rw [hg]; exact Nat.ne_of_lt (blk_lt (g := gb615) (o := .cells #[.int .i64 a0_0, .slice A0_1 l0_1.length c0_1, .slice (some ad616) l0_2.length c0_2] 25 (0, 0)) q48_) : gb615 ≠ gb617)); have n7_ := Aside0.mk ((by rw [hg]; exact Nat.ne_of_gt (blk_lt (g := gb615) (o := .cells #[.int .i64 a0_0, .slice A0_1 l0_1.length c0_1, .slice (some ad616) l0_2.length c0_2] 25 (0, 0)) q48_) : gb617 ≠ gb615)); clear HO_3; clear BK615; clear HB; have HO_3 := n0_; have BK615 := n1_; have HB := n2_; have BK617 := n3_; have GW617 := n4_; have GE617 := n5_; have NB615_617 := n6_; have NB617_615 := n7_; clear n0_ n1_ n2_ n3_ n4_ n5_ n6_ n7_; clear hb hbox hg; have hnb9 := NB617_615.out; have hnc9 := NB615_617.out; have hcz10_0 : w8.cell? ⟨gb617, 0, none⟩ = some (.int .i64 0) := (blk_cell BK617.out 0).trans rfl; have hcz10_1 : w8.cell? ⟨gb617, 1, none⟩ = some (.int .i64 0) := (blk_cell BK617.out 1).trans rfl; have hcz10_2 : w8.cell? ⟨gb617, 2, none⟩ = some (.int .i64 0) := (blk_cell BK617.out 2).trans rfl; have hcz10_3 : w8.cell? ⟨gb617, 3, none⟩ = some (.int .i64 0) := (blk_cell BK617.out 3).trans rfl; have hfz10_0 := blk_frozen BK617.out 0; have hfz10_1 := blk_frozen BK617.out 1; have hfz10_2 := blk_frozen BK617.out 2; have hfz10_3 := blk_frozen BK617.out 3) | ((with_reducible refine gate_builtin (b := .append) (xs := #[.tmp 16, .tmp 19]) rfl ?_); (try (refine gate_guard (by rfl) ?_; dsimp only)); at_builtin; refine Kd.R_append (Kd.int .i64) (w0 := w) w.heap.size rfl (.tmp 16) (.tmp 19) 43 3 (.int .i64 0) 8 rfl Try.underlying43 info3 rfl q210_ (by omega) u3 x3_1 ((rd_T57 l0_2 x12_1).f1) [.int .i64 ((rd_T57 l0_2 x12_1).f1)] (fun _ => True) (fun _ => False) rfl (by first | (go_simp; done) | (go_simp; rfl)) ?aP (fun _ hk => hk.elim) ?aF ?aO ?aB ?aS ?aL ?_; (case aP => exact rfl); (case aB => exact q223_); (case aF => exact (fun _ _ => trivial)); (case aO => exact (by (with_reducible repeat (first | apply Kd.R_alloc | apply Kd.R_drewN | apply Kd.R_drew)); exact Kd.R_mono (Kd.R_far (p := ⟨gb617, 3, none⟩) (Kd.R_far (p := ⟨gb617, 2, none⟩) (Kd.R_far (p := ⟨gb617, 1, none⟩) (Kd.R_far (p := ⟨gb617, 0, none⟩) (Kd.R_types HO_3.out BK617.out q210_) (fun _ hk => hk.2) (.int .i64 ((rd_T57 l0_2 x12_1).f0.f0))) (fun _ hk => hk.2) (.int .i64 ((rd_T57 l0_2 x12_1).f0.f1))) (fun _ hk => hk.2) (.int .i64 ((rd_T57 l0_2 x12_1).f0.f2))) (fun _ hk => hk.2) (.int .i64 ((rd_T57 l0_2 x12_1).f1))) (fun _ hk => trivial))); (case aS => exact (below_size q223_)); (case aL => have := LMc7.out; omega); intro v619 w11 ho hb hg hat; rw [← Ny618.out] at ho; have n0_ := Aside0.mk (blk_grown (g := gb615) (o := .cells #[.int .i64 a0_0, .slice A0_1 l0_1.length c0_1, .slice (some ad616) l0_2.length c0_2] 25 (0, 0)) (by (with_reducible repeat (first | refine blk_drewN ?_ _ | refine blk_drew ?_ | refine blk_alloc ?_ _)); refine blk_far ?_ NB615_617.out _; (with_reducible repeat (first | refine blk_drewN ?_ _ | refine blk_drew ?_ | refine blk_alloc ?_ _)); refine blk_far ?_ NB615_617.out _; (with_reducible repeat (first | refine blk_drewN ?_ _ | refine blk_drew ?_ | refine blk_alloc ?_ _)); refine blk_far ?_ NB615_617.out _; (with_reducible repeat (first | refine blk_drewN ?_ _ | refine blk_drew ?_ | refine blk_alloc ?_ _)); refine blk_far ?_ NB615_617.out _; (with_reducible repeat (first | refine blk_drewN ?_ _ | refine blk_drew ?_ | refine blk_alloc ?_ _)); exact BK615.out) hg (Kd.R_ne HO_3.out BK615.out q210_)); have n1_ := Aside0.mk (blk_grown (g := gb617) (o := .cells #[.int .i64 ((rd_T57 l0_2 x12_1).f0.f0), .int .i64 ((rd_T57 l0_2 x12_1).f0.f1), .int .i64 ((rd_T57 l0_2 x12_1).f0.f2), .int .i64 ((rd_T57 l0_2 x12_1).f1)] 57 (0, 0)) (by (with_reducible repeat (first | refine blk_drewN ?_ _ | refine blk_drew ?_ | refine blk_alloc ?_ _)); refine blk_put (cs := #[.int .i64 ((rd_T57 l0_2 x12_1).f0.f0), .int .i64 ((rd_T57 l0_2 x12_1).f0.f1), .int .i64 ((rd_T57 l0_2 x12_1).f0.f2), .int .i64 0]) ?_ 3 _ rfl; (with_reducible repeat (first | refine blk_drewN ?_ _ | refine blk_drew ?_ | refine blk_alloc ?_ _)); refine blk_put (cs := #[.int .i64 ((rd_T57 l0_2 x12_1).f0.f0), .int .i64 ((rd_T57 l0_2 x12_1).f0.f1), .int .i64 0, .int .i64 0]) ?_ 2 _ rfl; (with_reducible repeat (first | refine blk_drewN ?_ _ | refine blk_drew ?_ | refine blk_alloc ?_ _)); refine blk_put (cs := #[.int .i64 ((rd_T57 l0_2 x12_1).f0.f0), .int .i64 0, .int .i64 0, .int .i64 0]) ?_ 1 _ rfl; (with_reducible repeat (first | refine blk_drewN ?_ _ | refine blk_drew ?_ | refine blk_alloc ?_ _)); refine blk_put (cs := #[.int .i64 0, .int .i64 0, .int .i64 0, .int .i64 0]) ?_ 0 _ rfl; (with_reducible repeat (first | refine blk_drewN ?_ _ | refine blk_drew ?_ | refine blk_alloc ?_ _)); exact BK617.out) hg (Kd.R_ne HO_3.out BK617.out q210_)); have n2_ := Aside0.mk (hb); have n3_ := Aside0.mk (ho); clear BK615; clear BK617; clear HB; clear HO_3; have BK615 := n0_; have BK617 := n1_; have HB := n2_; have HO620 := n3_; clear n0_ n1_ n2_ n3_; clear ho hb hg hat))
       go_roundg k1
       case measure => have := HK1.out; omega
       case rel => exact ⟨(y618), (wrap64 (x12_1 + 1)), q14_, H', ⟨by have := HK1.out; omega⟩, ⟨by (with_reducible repeat (first | apply Kd.R_alloc | apply Kd.R_drewN | apply Kd.R_drew)); exact HO620.out⟩, ⟨q48_⟩, ⟨q223_⟩⟩
      ·rw [if_neg c7] at H
       exact absurd H (by simp)
     ·rw [if_neg c6] at H
      exact absurd H (by simp)
    ·rw [if_neg c5] at H
     exact absurd H (by simp)
   ·rw [if_neg c4] at H
    have c4b0 : decide (x12_1 < (l0_2.length : Int)) = false := decide_eq_false c4
    clear c4
    have H' := Aside0.mk H
    clear H
    have hcz12_0 : wr.cell? ⟨gb615, 0, none⟩ = some (.int .i64 a0_0) := (blk_cell BK615.out 0).trans rfl
    have hcz12_1 : wr.cell? ⟨gb615, 1, none⟩ = some (.slice A0_1 l0_1.length c0_1) := (blk_cell BK615.out 1).trans rfl
    have hcz12_2 : wr.cell? ⟨gb615, 2, none⟩ = some (.slice A0_2 l0_2.length c0_2) := (blk_cell BK615.out 2).trans rfl
    have hfz12_0 := blk_frozen BK615.out 0
    have hfz12_1 := blk_frozen BK615.out 1
    have hfz12_2 := blk_frozen BK615.out 2
    go_wp2
    go_loopg [3, 25] k1 (fun kq v3 v25 w' => ∃ (x3_2 : List Int) (x25_2 : Int), v25 = .int .i64 x25_2 ∧ Aside0 (node_Kids.l1 kq x3_2 l0_1 (l0_1.length : Int) x25_2 = some r) ∧ Aside0 (kq ≤ k1) ∧ Aside0 (Kd.R (Kd.int .i64) 3 w' w.heap.size (fun _ => True) v3 x3_2) ∧ Aside0 (w'.heap[gb615]? = some (.cells #[.int .i64 a0_0, (.slice A0_1 l0_1.length c0_1), (.slice A0_2 l0_2.length c0_2)] 25 (0, 0))) ∧ Aside0 (Below w.heap.size w w'))
    case atStart => exact ⟨(x3_1), (0), q14_, H', ⟨Nat.le_refl _⟩, ⟨q80_⟩, ⟨q48_⟩, ⟨q40_⟩⟩
    case round =>
     clear H'
     try clear c2
     try clear p2
     try clear c4
     try clear c4b0
     try clear c5
     try clear c5b0
     try clear c6
     try clear c6b0
     try clear p6
     try clear q6
     try clear hx6
     try clear c7
     try clear c9
     try clear hcz10_0
     try clear hcz10_1
     try clear hcz10_2
     try clear hcz10_3
     try clear hcz12_0
     try clear hcz12_1
     try clear hcz12_2
     try clear hcz3_0
     try clear hcz3_1
     try clear hcz3_2
     try clear hfz10_0
     try clear hfz10_1
     try clear hfz10_2
     try clear hfz10_3
     try clear hfz12_0
     try clear hfz12_1
     try clear hfz12_2
     try clear hfz3_0
     try clear hfz3_1
     try clear hfz3_2
     try clear hx616_0
     try clear hx616_1
     try clear hx616_2
     try clear hx616_3
     try clear p2
     try clear p616
     try clear q616
     obtain ⟨x3_2, x25_2, rfl, HA, HK2, HO_3, BK615, HB⟩ := hrel
     cases gk with
     | zero => exact absurd (show none = some _ from HA.out) (by simp)
     | succ k2 =>
      have H := HA.out
      clear HA
      simp only [node_Kids.l1] at H
      by_cases c13 : x25_2 < (l0_1.length : Int)
      ·rw [if_pos c13] at H
       have c13b0 : decide (x25_2 < (l0_1.length : Int)) = true := decide_eq_true c13
       clear c13
       by_cases c14 : 0 ≤ x25_2
       ·rw [if_pos c14] at H
        have c14b0 : decide (0 ≤ x25_2) = true := decide_eq_true c14
        clear c14
        by_cases c15 : x25_2 < (l0_1.length : Int)
        ·rw [if_pos c15] at H
         have c15b0 : decide (x25_2 < (l0_1.length : Int)) = true := decide_eq_true c15
         clear c15
         by_cases c16 : ((rd_T52 l0_1 x25_2).f0.f1) = 3
         ·rw [if_pos c16] at H
          have c16b0 : (((rd_T52 l0_1 x25_2).f0.f1) == 3) = true := beq_iff_eq.mpr c16
          have c16b1 : (((rd_T52 l0_1 x25_2).f0.f1) != 3) = false := bne_eq_false_iff_eq.mpr c16
          clear c16
          by_cases c17 : (((rd_T52 l0_1 x25_2).f1).length : Int) = 3
          ·rw [if_pos c17] at H
           have c17b0 : ((((rd_T52 l0_1 x25_2).f1).length : Int) == 3) = true := beq_iff_eq.mpr c17
           have c17b1 : ((((rd_T52 l0_1 x25_2).f1).length : Int) != 3) = false := bne_eq_false_iff_eq.mpr c17
           clear c17
           by_cases c18 : 0 < (((rd_T52 l0_1 x25_2).f1).length : Int)
           ·rw [if_pos c18] at H
            have c18b0 : decide (0 < (((rd_T52 l0_1 x25_2).f1).length : Int)) = true := decide_eq_true c18
            have c18b1 : decide (0 < ((rd_T52 l0_1 x25_2).f1).length) = true := decide_eq_true (by omega)
            clear c18
            by_cases c19 : (rd ((rd_T52 l0_1 x25_2).f1) 0) = 1
            ·rw [if_pos c19] at H
             have c19b0 : ((rd ((rd_T52 l0_1 x25_2).f1) 0) == 1) = true := beq_iff_eq.mpr c19
             have c19b1 : ((rd ((rd_T52 l0_1 x25_2).f1) 0) != 1) = false := bne_eq_false_iff_eq.mpr c19
             clear c19
             by_cases c20 : 1 < (((rd_T52 l0_1 x25_2).f1).length : Int)
             ·rw [if_pos c20] at H
              have c20b0 : decide (1 < (((rd_T52 l0_1 x25_2).f1).length : Int)) = true := decide_eq_true c20
              have c20b1 : decide (1 < ((rd_T52 l0_1 x25_2).f1).length) = true := decide_eq_true (by omega)
              clear c20
              by_cases c21 : 2 < (((rd_T52 l0_1 x25_2).f1).length : Int)
              ·rw [if_pos c21] at H
               have c21b0 : decide (2 < (((rd_T52 l0_1 x25_2).f1).length : Int)) = true := decide_eq_true c21
               have c21b1 : decide (2 < ((rd_T52 l0_1 x25_2).f1).length) = true := decide_eq_true (by omega)
               clear c21
               by_cases c22 : x3_2.length < 17592186044416
               ·rw [if_pos c22] at H
                have LMc22 := Aside0.mk c22
                clear c22
                obtain ⟨y626, hy626⟩ : ∃ y_ : List Int, y_ = (x3_2 ++ [Go.bits .or .i64 (wrap64 ((wrap64 (rd ((rd_T52 l0_1 x25_2).f1) 1)) * 256)) (wrap64 (rd ((rd_T52 l0_1 x25_2).f1) 2))]) := ⟨_, rfl⟩
                replace H : (node_Kids.l1 k2 y626 l0_1 (l0_1.length : Int) (wrap64 (x25_2 + 1))) = some r := by first | (rw [hy626]; with_reducible exact H) | (have H2_ := (Option.bind_some _ _).symm.trans H; rw [hy626]; with_reducible exact H2_) | (have H2_ := (Option.bind_some _ _).symm.trans H; with_reducible exact H2_) | with_reducible exact H | (rw [hy626]; exact H) | exact H
                have Ny626 := Aside0.mk hy626
                clear hy626
                have H' := Aside0.mk H
                clear H
                have p621 : 0 ≤ (x25_2 : Int) := of_decide_eq_true q4_
                have q621 : x25_2 < (l0_1.length : Int) := of_decide_eq_true q4_
                obtain ⟨ad621, A621_3, c621_3, e621, hx621_0, hx621_1, hx621_2, hx621_3, hl621_3, hi621_3⟩ := at_T52 HR0_1.out x25_2 p621 q621
                cases e621
                replace hx621_0 := (HB.out.cell (World.block_lt_of_cell? w _ hx621_0)).trans hx621_0
                replace hx621_1 := (HB.out.cell (World.block_lt_of_cell? w _ hx621_1)).trans hx621_1
                replace hx621_2 := (HB.out.cell (World.block_lt_of_cell? w _ hx621_2)).trans hx621_2
                replace hx621_3 := (HB.out.cell (World.block_lt_of_cell? w _ hx621_3)).trans hx621_3
                have HR621_3 := Aside0.mk hi621_3
                have HC621_3 := Aside0.mk hl621_3
                clear hi621_3 hl621_3
                replace p621 := eq_true p621
                replace q621 := eq_true q621
                try go_wp2_with (first | ((with_reducible refine gate_dst (N := 7) rfl ?_); (try (refine gate_guard (by rfl) ?_; dsimp only)); refine box_event ?hg (N := 7) ?hd (cs := #[.int .i64 0, .int .i64 0, .int .i64 0, .slice none 0 0]) (t := 52) ?hr ?_; (case hd => rfl); (case hg => rfl); (case hr => first | (go_simp; done) | (go_simp; rfl)); intro gb622 hg w23 hbox hb; have n0_ := Aside0.mk (Kd.R_below q80_ hb); have n1_ := Aside0.mk (blk_below (g := gb615) (o := .cells #[.int .i64 a0_0, .slice (some ad621) l0_1.length c0_1, .slice A0_2 l0_2.length c0_2] 25 (0, 0)) q48_ hb); have n2_ := Aside0.mk (below_step q40_ hb); have n3_ := Aside0.mk (hbox); have n4_ := Aside0.mk ((by rw [hg]; exact (below_size q40_) : w.heap.size ≤ gb622)); have n5_ := Aside0.mk ((by rw [hg]; exact (below_size q40_) : w.heap.size ≤ gb622)); have n6_ := Aside0.mk ((q187_ : gb615 ≠ gb622)); have n7_ := Aside0.mk ((q188_ : gb622 ≠ gb615)); clear HO_3; clear BK615; clear HB; have HO_3 := n0_; have BK615 := n1_; have HB := n2_; have BK622 := n3_; have GW622 := n4_; have GE622 := n5_; have NB615_622 := n6_; have NB622_615 := n7_; clear n0_ n1_ n2_ n3_ n4_ n5_ n6_ n7_; clear hb hbox hg; have hnb24 := NB622_615.out; have hnc24 := NB615_622.out; have hcz25_0 : w23.cell? ⟨gb622, 0, none⟩ = some (.int .i64 0) := (blk_cell BK622.out 0).trans rfl; have hcz25_1 : w23.cell? ⟨gb622, 1, none⟩ = some (.int .i64 0) := (blk_cell BK622.out 1).trans rfl; have hcz25_2 : w23.cell? ⟨gb622, 2, none⟩ = some (.int .i64 0) := (blk_cell BK622.out 2).trans rfl; have hcz25_3 : w23.cell? ⟨gb622, 3, none⟩ = some (.slice none 0 0) := (blk_cell BK622.out 3).trans rfl; have hfz25_0 := blk_frozen BK622.out 0; have hfz25_1 := blk_frozen BK622.out 1; have hfz25_2 := blk_frozen BK622.out 2; have hfz25_3 := blk_frozen BK622.out 3; have p623 : 0 ≤ (0 : Int) := (by omega); have q623 : 0 < (((rd_T52 l0_1 x25_2).f1).length : Int) := of_decide_eq_true q4_; obtain ⟨ad623, e623, hx623_0⟩ := Kd.at_int HR621_3.out 0 p623 q623; cases e623; have qi623 : (0 < ((rd_T52 l0_1 x25_2).f1).length) = True := eq_true (by omega); (try rw [show ((0 : Int)).toNat = 0 from rfl] at hx623_0); (try rw [Addr.add_zero'] at hx623_0); have hn623_0 : ad623.block ≠ gb622 := Nat.ne_of_lt (Nat.lt_of_lt_of_le q153_ GW622.out); have hn623_1 : ad623.block ≠ gb622 := Nat.ne_of_lt (Nat.lt_of_lt_of_le q153_ GW622.out); have hn623_2 : ad623.block ≠ gb622 := Nat.ne_of_lt (Nat.lt_of_lt_of_le q153_ GW622.out); have hn623_3 : ad623.block ≠ gb622 := Nat.ne_of_lt (Nat.lt_of_lt_of_le q153_ GW622.out); replace hx623_0 := (HB.out.cell (World.block_lt_of_cell? w _ hx623_0)).trans hx623_0; replace hx623_0 := (cell_far (p := ⟨gb622, 0, none⟩) (by first | (rw [add_block]; exact hn623_0) | (show (Addr.add _ _).block ≠ _; rw [add_block]; exact hn623_0) | exact hn623_0) (.int .i64 ((rd_T52 l0_1 x25_2).f0.f0))).trans hx623_0; replace hx623_0 := (cell_far (p := ⟨gb622, 1, none⟩) (by first | (rw [add_block]; exact hn623_1) | (show (Addr.add _ _).block ≠ _; rw [add_block]; exact hn623_1) | exact hn623_1) (.int .i64 ((rd_T52 l0_1 x25_2).f0.f1))).trans hx623_0; replace hx623_0 := (cell_far (p := ⟨gb622, 2, none⟩) (by first | (rw [add_block]; exact hn623_2) | (show (Addr.add _ _).block ≠ _; rw [add_block]; exact hn623_2) | exact hn623_2) (.int .i64 ((rd_T52 l0_1 x25_2).f0.f2))).trans hx623_0; replace hx623_0 := (cell_far (p := ⟨gb622, 3, none⟩) (by first | (rw [add_block]; exact hn623_3) | (show (Addr.add _ _).block ≠ _; rw [add_block]; exact hn623_3) | exact hn623_3) (.slice (some ad623) ((rd_T52 l0_1 x25_2).f1).length c621_3)).trans hx623_0; clear hn623_0; clear hn623_1; clear hn623_2; clear hn623_3; replace p623 := eq_true p623; replace q623 := eq_true q623))
                have n0_ : Aside0 (Kd.R (Kd.int .i64) 3 ((((w23.setCell ⟨gb622, 0, none⟩ (.int .i64 ((rd_T52 l0_1 x25_2).f0.f0))).setCell ⟨gb622, 1, none⟩ (.int .i64 ((rd_T52 l0_1 x25_2).f0.f1))).setCell ⟨gb622, 2, none⟩ (.int .i64 ((rd_T52 l0_1 x25_2).f0.f2))).setCell ⟨gb622, 3, none⟩ (.slice (some ad623) ((rd_T52 l0_1 x25_2).f1).length c621_3)) w.heap.size (fun _ => True) u3 x3_2) := ⟨q159_⟩
                have n1_ : Aside0 (((((w23.setCell ⟨gb622, 0, none⟩ (.int .i64 ((rd_T52 l0_1 x25_2).f0.f0))).setCell ⟨gb622, 1, none⟩ (.int .i64 ((rd_T52 l0_1 x25_2).f0.f1))).setCell ⟨gb622, 2, none⟩ (.int .i64 ((rd_T52 l0_1 x25_2).f0.f2))).setCell ⟨gb622, 3, none⟩ (.slice (some ad623) ((rd_T52 l0_1 x25_2).f1).length c621_3)).heap[gb615]? = some (.cells #[.int .i64 a0_0, .slice (some ad621) l0_1.length c0_1, .slice A0_2 l0_2.length c0_2] 25 (0, 0))) := ⟨q56_⟩
                have n2_ : Aside0 (((((w23.setCell ⟨gb622, 0, none⟩ (.int .i64 ((rd_T52 l0_1 x25_2).f0.f0))).setCell ⟨gb622, 1, none⟩ (.int .i64 ((rd_T52 l0_1 x25_2).f0.f1))).setCell ⟨gb622, 2, none⟩ (.int .i64 ((rd_T52 l0_1 x25_2).f0.f2))).setCell ⟨gb622, 3, none⟩ (.slice (some ad623) ((rd_T52 l0_1 x25_2).f1).length c621_3)).heap[gb622]? = some (.cells #[.int .i64 ((rd_T52 l0_1 x25_2).f0.f0), .int .i64 ((rd_T52 l0_1 x25_2).f0.f1), .int .i64 ((rd_T52 l0_1 x25_2).f0.f2), .slice (some ad623) ((rd_T52 l0_1 x25_2).f1).length c621_3] 52 (0, 0))) := ⟨by (with_reducible repeat (first | refine blk_drewN ?_ _ | refine blk_drew ?_ | refine blk_alloc ?_ _)); refine blk_put (cs := #[.int .i64 ((rd_T52 l0_1 x25_2).f0.f0), .int .i64 ((rd_T52 l0_1 x25_2).f0.f1), .int .i64 ((rd_T52 l0_1 x25_2).f0.f2), .slice none 0 0]) ?_ 3 _ rfl; (with_reducible repeat (first | refine blk_drewN ?_ _ | refine blk_drew ?_ | refine blk_alloc ?_ _)); refine blk_put (cs := #[.int .i64 ((rd_T52 l0_1 x25_2).f0.f0), .int .i64 ((rd_T52 l0_1 x25_2).f0.f1), .int .i64 0, .slice none 0 0]) ?_ 2 _ rfl; (with_reducible repeat (first | refine blk_drewN ?_ _ | refine blk_drew ?_ | refine blk_alloc ?_ _)); refine blk_put (cs := #[.int .i64 ((rd_T52 l0_1 x25_2).f0.f0), .int .i64 0, .int .i64 0, .slice none 0 0]) ?_ 1 _ rfl; (with_reducible repeat (first | refine blk_drewN ?_ _ | refine blk_drew ?_ | refine blk_alloc ?_ _)); refine blk_put (cs := #[.int .i64 0, .int .i64 0, .int .i64 0, .slice none 0 0]) ?_ 0 _ rfl; (with_reducible repeat (first | refine blk_drewN ?_ _ | refine blk_drew ?_ | refine blk_alloc ?_ _)); exact BK622.out⟩
                have n3_ : Aside0 (Below w.heap.size w ((((w23.setCell ⟨gb622, 0, none⟩ (.int .i64 ((rd_T52 l0_1 x25_2).f0.f0))).setCell ⟨gb622, 1, none⟩ (.int .i64 ((rd_T52 l0_1 x25_2).f0.f1))).setCell ⟨gb622, 2, none⟩ (.int .i64 ((rd_T52 l0_1 x25_2).f0.f2))).setCell ⟨gb622, 3, none⟩ (.slice (some ad623) ((rd_T52 l0_1 x25_2).f1).length c621_3))) := ⟨q104_⟩
                (try clear HO_3)
                (try clear BK615)
                (try clear BK622)
                (try clear HB)
                generalize ((((w23.setCell ⟨gb622, 0, none⟩ (.int .i64 ((rd_T52 l0_1 x25_2).f0.f0))).setCell ⟨gb622, 1, none⟩ (.int .i64 ((rd_T52 l0_1 x25_2).f0.f1))).setCell ⟨gb622, 2, none⟩ (.int .i64 ((rd_T52 l0_1 x25_2).f0.f2))).setCell ⟨gb622, 3, none⟩ (.slice (some ad623) ((rd_T52 l0_1 x25_2).f1).length c621_3)) = w26 at n0_ n1_ n2_ n3_ ⊢
                have HO_3 := n0_
                have BK615 := n1_
                have BK622 := n2_
                have HB := n3_
                clear n0_ n1_ n2_ n3_
                have n0_ := Aside0.mk (Kd.R_drew HO_3.out)
                have n1_ := Aside0.mk (blk_drew BK615.out)
                have n2_ := Aside0.mk (blk_drew BK622.out)
                have n3_ := Aside0.mk (below_drew1 HB.out)
                clear HO_3
                clear BK615
                clear BK622
                clear HB
                have HO_3 := n0_
                have BK615 := n1_
                have BK622 := n2_
                have HB := n3_
                clear n0_ n1_ n2_ n3_
                have p624 : 0 ≤ (1 : Int) := (by omega)
                have q624 : 1 < (((rd_T52 l0_1 x25_2).f1).length : Int) := of_decide_eq_true q4_
                obtain ⟨ad624, e624, hx624_0⟩ := Kd.at_int HR621_3.out 1 p624 q624
                have hw624_0 := hx624_0
                (try rw [show ((1 : Int)).toNat = 1 from rfl] at hw624_0)
                (try rw [show 1 * 1 = 1 from rfl] at hw624_0)
                (try simp only [Nat.reduceMul, Nat.reduceEqDiff, Go.Addr.add, ↓reduceIte] at hw624_0)
                obtain rfl : ad623 = ad624 := (by injection e624)
                (try simp only [show (1 : Int).toNat = 1 from rfl, Nat.reduceMul, Nat.reduceEqDiff, Go.Addr.add, ↓reduceIte] at hx624_0)
                have qi624 : (1 < ((rd_T52 l0_1 x25_2).f1).length) = True := eq_true (by omega)
                (try rw [show ((1 : Int)).toNat = 1 from rfl] at hx624_0)
                replace hx624_0 := (HB.out.cell (World.block_lt_of_cell? w _ hx624_0)).trans hx624_0
                replace p624 := eq_true p624
                replace q624 := eq_true q624
                have p625 : 0 ≤ (2 : Int) := (by omega)
                have q625 : 2 < (((rd_T52 l0_1 x25_2).f1).length : Int) := of_decide_eq_true q4_
                obtain ⟨ad625, e625, hx625_0⟩ := Kd.at_int HR621_3.out 2 p625 q625
                have hw625_0 := hx625_0
                (try rw [show ((2 : Int)).toNat = 2 from rfl] at hw625_0)
                (try rw [show 2 * 1 = 2 from rfl] at hw625_0)
                (try simp only [Nat.reduceMul, Nat.reduceEqDiff, Go.Addr.add, ↓reduceIte] at hw625_0)
                obtain rfl : ad623 = ad625 := (by injection e625)
                (try simp only [show (2 : Int).toNat = 2 from rfl, Nat.reduceMul, Nat.reduceEqDiff, Go.Addr.add, ↓reduceIte] at hx625_0)
                have qi625 : (2 < ((rd_T52 l0_1 x25_2).f1).length) = True := eq_true (by omega)
                (try rw [show ((2 : Int)).toNat = 2 from rfl] at hx625_0)
                replace hx625_0 := (HB.out.cell (World.block_lt_of_cell? w _ hx625_0)).trans hx625_0
                replace p625 := eq_true p625
                replace q625 := eq_true q625
                refine start_ (n := 14) (S := fun w' => w'.cell? ⟨ad623.block, ad623.off + 1, none⟩ = some (.int .u8 (rd ((rd_T52 l0_1 x25_2).f1) 1)) ∧ w'.cell? ⟨ad623.block, ad623.off + 2, none⟩ = some (.int .u8 (rd ((rd_T52 l0_1 x25_2).f1) 2))) (ds := []) (bl_ 14 0) q8_ rfl rfl ⟨((HB.out.cell (World.block_lt_of_cell? w _ hw624_0)).trans hw624_0), ((HB.out.cell (World.block_lt_of_cell? w _ hw625_0)).trans hw625_0)⟩ (fun hHeld => ?_); refine with_tabW node_Kids.tab12 node_Kids.bits12 (fun HT_ HW_ => ?_)
                generalize w26.drew = w27 at HO_3 BK615 BK622 HB hx624_0 hx625_0 hHeld ⊢
                refine pure_ (i := 0) (N := some 46) (v := ?_) (a' := ?_) (bl_ 14 1) rfl rfl (any_of HT_.out q8_) (fun _ _ _ h => h) (Or.inl ⟨by rfl, ?_⟩) ?_ ?_
                rotate_left
                ·intro w'
                 go_simp
                 with_reducible rfl
                rotate_left
                ·simp only [Act.put, List.setIfInBounds_toArray, List.set_cons_zero, List.set_cons_succ, i64_w, i32_w]
                 rfl
                refine pure_ (i := 1) (N := some 47) (v := ?_) (a' := ?_) (bl_ 14 3) rfl rfl (any_of HT_.out q8_) (fun _ _ _ h => h) (Or.inl ⟨by rfl, ?_⟩) ?_ ?_
                rotate_left
                ·intro w'
                 go_simp
                 with_reducible rfl
                rotate_left
                ·simp only [Act.put, List.setIfInBounds_toArray, List.set_cons_zero, List.set_cons_succ, i64_w, i32_w]
                 rfl
                refine pure_ (i := 2) (N := some 48) (v := ?_) (a' := ?_) (bl_ 14 7) rfl rfl (any_of HT_.out q8_) (fun _ _ _ h => h) (Or.inl ⟨by rfl, ?_⟩) ?_ ?_
                rotate_left
                ·intro w'
                 go_simp
                 with_reducible rfl
                rotate_left
                ·simp only [Act.put, List.setIfInBounds_toArray, List.set_cons_zero, List.set_cons_succ, i64_w, i32_w]
                 rfl
                refine pure_ (i := 6) (N := some 52) (v := ?_) (a' := ?_) (bl_ 14 71) rfl rfl (any_of HT_.out q8_) (fun _ _ _ h => h) (Or.inl ⟨by rfl, ?_⟩) ?_ ?_
                rotate_left
                ·intro w'
                 go_simp
                 with_reducible rfl
                rotate_left
                ·simp only [Act.put, List.setIfInBounds_toArray, List.set_cons_zero, List.set_cons_succ, i64_w, i32_w]
                 rfl
                refine pure_ (i := 7) (N := some 53) (v := ?_) (a' := ?_) (bl_ 14 199) rfl rfl (any_of HT_.out q8_) (fun _ _ _ h => h) (Or.inl ⟨by rfl, ?_⟩) ?_ ?_
                rotate_left
                ·intro w'
                 go_simp
                 with_reducible rfl
                rotate_left
                ·simp only [Act.put, List.setIfInBounds_toArray, List.set_cons_zero, List.set_cons_succ, i64_w, i32_w]
                 rfl
                refine take_ (i := 3) (N := some 49) (v := ?_) (a' := ?_) (bl_ 14 207) rfl rfl (take_ofW HT_.out HW_.out q8_) (fun _ _ _ h => h) (Or.inl ⟨by rfl, ?_⟩) hHeld ?_ ?_
                rotate_left
                ·rintro w' ⟨s0, s1⟩
                 go_simp
                 with_reducible rfl
                rotate_left
                ·simp only [Act.put, List.setIfInBounds_toArray, List.set_cons_zero, List.set_cons_succ, i64_w, i32_w]
                 rfl
                refine pure_ (i := 4) (N := some 50) (v := ?_) (a' := ?_) (bl_ 14 223) rfl rfl (any_of HT_.out q8_) (fun _ _ _ h => h) (Or.inl ⟨by rfl, ?_⟩) ?_ ?_
                rotate_left
                ·intro w'
                 go_simp
                 with_reducible rfl
                rotate_left
                ·simp only [Act.put, List.setIfInBounds_toArray, List.set_cons_zero, List.set_cons_succ, i64_w, i32_w]
                 rfl
                refine pure_ (i := 5) (N := some 51) (v := ?_) (a' := ?_) (bl_ 14 255) rfl rfl (any_of HT_.out q8_) (fun _ _ _ h => h) (Or.inl ⟨by rfl, ?_⟩) ?_ ?_
                rotate_left
                ·intro w'
                 go_simp
                 with_reducible rfl
                rotate_left
                ·simp only [Act.put, List.setIfInBounds_toArray, List.set_cons_zero, List.set_cons_succ, i64_w, i32_w]
                 rfl
                refine take_ (i := 8) (N := some 54) (v := ?_) (a' := ?_) (bl_ 14 511) rfl rfl (take_ofW HT_.out HW_.out q8_) (fun _ _ _ h => h) (Or.inl ⟨by rfl, ?_⟩) hHeld ?_ ?_
                rotate_left
                ·rintro w' ⟨s0, s1⟩
                 go_simp
                 with_reducible rfl
                rotate_left
                ·simp only [Act.put, List.setIfInBounds_toArray, List.set_cons_zero, List.set_cons_succ, i64_w, i32_w]
                 rfl
                refine pure_ (i := 9) (N := some 55) (v := ?_) (a' := ?_) (bl_ 14 1023) rfl rfl (any_of HT_.out q8_) (fun _ _ _ h => h) (Or.inl ⟨by rfl, ?_⟩) ?_ ?_
                rotate_left
                ·intro w'
                 go_simp
                 with_reducible rfl
                rotate_left
                ·simp only [Act.put, List.setIfInBounds_toArray, List.set_cons_zero, List.set_cons_succ, i64_w, i32_w]
                 rfl
                refine pure_ (i := 10) (N := some 56) (v := ?_) (a' := ?_) (bl_ 14 2047) rfl rfl (any_of HT_.out q8_) (fun _ _ _ h => h) (Or.inl ⟨by rfl, ?_⟩) ?_ ?_
                rotate_left
                ·intro w'
                 go_simp
                 with_reducible rfl
                rotate_left
                ·simp only [Act.put, List.setIfInBounds_toArray, List.set_cons_zero, List.set_cons_succ, i64_w, i32_w]
                 rfl
                refine one_ (i := 11) (N := some 57) (bl_ 14 4095) rfl rfl (one_of HT_.out q8_) q210_ (fun K hK => ?_)
                refine value_ (w1 := ?_) (v := ?_) (by rfl) rfl ?_ ?_
                rotate_left 2
                ·go_simp
                 constructor
                 ·rfl
                 ·rfl
                refine hK.out _ _ ⟨(World.cell?_alloc_lt _ _ _ (World.block_lt_of_cell? _ _ (((HB.out.cell (World.block_lt_of_cell? w _ hw624_0)).trans hw624_0)))).trans (((HB.out.cell (World.block_lt_of_cell? w _ hw624_0)).trans hw624_0)), (World.cell?_alloc_lt _ _ _ (World.block_lt_of_cell? _ _ (((HB.out.cell (World.block_lt_of_cell? w _ hw625_0)).trans hw625_0)))).trans (((HB.out.cell (World.block_lt_of_cell? w _ hw625_0)).trans hw625_0))⟩ (fun hHeld => ?_)
                clear hK K
                refine norm_ (a' := ?_) ?_ ?_
                rotate_left
                ·show Act.put _ (some 57) _ = _
                 simp only [Act.put, List.setIfInBounds_toArray, List.set_cons_zero, List.set_cons_succ, i64_w, i32_w]
                 rfl
                refine one_ (i := 12) (N := some 58) (bl_ 14 8191) rfl rfl (one_of HT_.out q8_) q210_ (fun K hK => ?_)
                refine Kd.R_append_step (Kd.int .i64) (w0 := w) w.heap.size (by rfl) (.tmp 46) (.tmp 57) 43 3 (.int .i64 0) 8 rfl Try.underlying43 info3 rfl q210_ (by omega) u3 x3_2 (Go.bits .or .i64 (wrap64 ((wrap64 (rd ((rd_T52 l0_1 x25_2).f1) 1)) * 256)) (wrap64 (rd ((rd_T52 l0_1 x25_2).f1) 2))) [.int .i64 (Go.bits .or .i64 (wrap64 ((wrap64 (rd ((rd_T52 l0_1 x25_2).f1) 1)) * 256)) (wrap64 (rd ((rd_T52 l0_1 x25_2).f1) 2)))] (fun _ => True) (fun _ => False) rfl rfl ?aP (fun _ hk => hk.elim) ?aF ?aO ?aB ?aS ?aL ?_
                (case aP => exact rfl)
                (case aB => exact q104_)
                (case aF => exact (fun _ _ => trivial))
                (case aO => exact q80_)
                (case aS => exact (below_size q104_))
                (case aL => have := LMc22.out; omega)
                intro v627 w28 ho hb hg hat
                rw [← Ny626.out] at ho
                have n0_ := Aside0.mk (blk_grown (g := gb615) (o := .cells #[.int .i64 a0_0, .slice (some ad621) l0_1.length c0_1, .slice A0_2 l0_2.length c0_2] 25 (0, 0)) q48_ hg (Kd.R_ne HO_3.out BK615.out q210_))
                have n1_ := Aside0.mk (blk_grown (g := gb622) (o := .cells #[.int .i64 ((rd_T52 l0_1 x25_2).f0.f0), .int .i64 ((rd_T52 l0_1 x25_2).f0.f1), .int .i64 ((rd_T52 l0_1 x25_2).f0.f2), .slice (some ad623) ((rd_T52 l0_1 x25_2).f1).length c621_3] 52 (0, 0)) (by (with_reducible repeat (first | refine blk_drewN ?_ _ | refine blk_drew ?_ | refine blk_alloc ?_ _)); exact BK622.out) hg (Kd.R_ne HO_3.out BK622.out q210_))
                have n2_ := Aside0.mk (hb)
                have n3_ := Aside0.mk (ho)
                clear BK615
                clear BK622
                clear HB
                clear HO_3
                have BK615 := n0_
                have BK622 := n1_
                have HB := n2_
                have HO628 := n3_
                clear n0_ n1_ n2_ n3_
                clear ho hb hg hat
                refine hK.out _ _ ⟨((HB.out.cell (World.block_lt_of_cell? w _ hw624_0)).trans hw624_0), ((HB.out.cell (World.block_lt_of_cell? w _ hw625_0)).trans hw625_0)⟩ (fun hHeld => ?_)
                clear hK K
                refine norm_ (a' := ?_) ?_ ?_
                rotate_left
                ·show Act.put _ (some 58) _ = _
                 simp only [Act.put, List.setIfInBounds_toArray, List.set_cons_zero, List.set_cons_succ, i64_w, i32_w]
                 rfl
                refine pure_ (i := 13) (N := some 3) (v := ?_) (a' := ?_) (bl_ 14 16383) rfl rfl (any_of HT_.out q8_) (fun _ _ _ h => h) (Or.inl ⟨by rfl, ?_⟩) ?_ ?_
                rotate_left
                ·intro w'
                 go_simp
                 with_reducible rfl
                rotate_left
                ·simp only [Act.put, List.setIfInBounds_toArray, List.set_cons_zero, List.set_cons_succ, i64_w, i32_w]
                 rfl
                refine done_ (done_of HT_.out q8_) ?_
                try go_wp2
                go_roundg k2
                case measure => have := HK1.out; have := HK2.out; omega
                case rel => exact ⟨(y626), (wrap64 (x25_2 + 1)), q14_, H', ⟨q189_⟩, ⟨by (with_reducible repeat (first | apply Kd.R_alloc | apply Kd.R_drewN | apply Kd.R_drew)); exact HO628.out⟩, ⟨q48_⟩, ⟨q104_⟩⟩
               ·rw [if_neg c22] at H
                exact absurd H (by simp)
              ·rw [if_neg c21] at H
               exact absurd H (by simp)
             ·rw [if_neg c20] at H
              exact absurd H (by simp)
            ·rw [if_neg c19] at H
             have c19b0 : ((rd ((rd_T52 l0_1 x25_2).f1) 0) == 1) = false := beq_eq_false_iff_ne.mpr c19
             have c19b1 : ((rd ((rd_T52 l0_1 x25_2).f1) 0) != 1) = true := bne_iff_ne.mpr c19
             have H' := Aside0.mk H
             clear H
             have p621 : 0 ≤ (x25_2 : Int) := of_decide_eq_true q4_
             have q621 : x25_2 < (l0_1.length : Int) := of_decide_eq_true q4_
             obtain ⟨ad621, A621_3, c621_3, e621, hx621_0, hx621_1, hx621_2, hx621_3, hl621_3, hi621_3⟩ := at_T52 HR0_1.out x25_2 p621 q621
             cases e621
             replace hx621_0 := (HB.out.cell (World.block_lt_of_cell? w _ hx621_0)).trans hx621_0
             replace hx621_1 := (HB.out.cell (World.block_lt_of_cell? w _ hx621_1)).trans hx621_1
             replace hx621_2 := (HB.out.cell (World.block_lt_of_cell? w _ hx621_2)).trans hx621_2
             replace hx621_3 := (HB.out.cell (World.block_lt_of_cell? w _ hx621_3)).trans hx621_3
             have HR621_3 := Aside0.mk hi621_3
             have HC621_3 := Aside0.mk hl621_3
             clear hi621_3 hl621_3
             replace p621 := eq_true p621
             replace q621 := eq_true q621
             go_wp2_with (first | ((with_reducible refine gate_dst (N := 7) rfl ?_); (try (refine gate_guard (by rfl) ?_; dsimp only)); refine box_event ?hg (N := 7) ?hd (cs := #[.int .i64 0, .int .i64 0, .int .i64 0, .slice none 0 0]) (t := 52) ?hr ?_; (case hd => rfl); (case hg => rfl); (case hr => first | (go_simp; done) | (go_simp; rfl)); intro gb622 hg w29 hbox hb; have n0_ := Aside0.mk (Kd.R_below q80_ hb); have n1_ := Aside0.mk (blk_below (g := gb615) (o := .cells #[.int .i64 a0_0, .slice (some ad621) l0_1.length c0_1, .slice A0_2 l0_2.length c0_2] 25 (0, 0)) q48_ hb); have n2_ := Aside0.mk (below_step q40_ hb); have n3_ := Aside0.mk (hbox); have n4_ := Aside0.mk ((by rw [hg]; exact (below_size q40_) : w.heap.size ≤ gb622)); have n5_ := Aside0.mk ((by rw [hg]; exact (below_size q40_) : w.heap.size ≤ gb622)); have n6_ := Aside0.mk ((q187_ : gb615 ≠ gb622)); have n7_ := Aside0.mk ((q188_ : gb622 ≠ gb615)); clear HO_3; clear BK615; clear HB; have HO_3 := n0_; have BK615 := n1_; have HB := n2_; have BK622 := n3_; have GW622 := n4_; have GE622 := n5_; have NB615_622 := n6_; have NB622_615 := n7_; clear n0_ n1_ n2_ n3_ n4_ n5_ n6_ n7_; clear hb hbox hg; have hnb30 := NB622_615.out; have hnc30 := NB615_622.out; have hcz31_0 : w29.cell? ⟨gb622, 0, none⟩ = some (.int .i64 0) := (blk_cell BK622.out 0).trans rfl; have hcz31_1 : w29.cell? ⟨gb622, 1, none⟩ = some (.int .i64 0) := (blk_cell BK622.out 1).trans rfl; have hcz31_2 : w29.cell? ⟨gb622, 2, none⟩ = some (.int .i64 0) := (blk_cell BK622.out 2).trans rfl; have hcz31_3 : w29.cell? ⟨gb622, 3, none⟩ = some (.slice none 0 0) := (blk_cell BK622.out 3).trans rfl; have hfz31_0 := blk_frozen BK622.out 0; have hfz31_1 := blk_frozen BK622.out 1; have hfz31_2 := blk_frozen BK622.out 2; have hfz31_3 := blk_frozen BK622.out 3; have p623 : 0 ≤ (0 : Int) := (by omega); have q623 : 0 < (((rd_T52 l0_1 x25_2).f1).length : Int) := of_decide_eq_true q4_; obtain ⟨ad623, e623, hx623_0⟩ := Kd.at_int HR621_3.out 0 p623 q623; cases e623; have qi623 : (0 < ((rd_T52 l0_1 x25_2).f1).length) = True := eq_true (by omega); (try rw [show ((0 : Int)).toNat = 0 from rfl] at hx623_0); (try rw [Addr.add_zero'] at hx623_0); have hn623_0 : ad623.block ≠ gb622 := Nat.ne_of_lt (Nat.lt_of_lt_of_le q153_ GW622.out); have hn623_1 : ad623.block ≠ gb622 := Nat.ne_of_lt (Nat.lt_of_lt_of_le q153_ GW622.out); have hn623_2 : ad623.block ≠ gb622 := Nat.ne_of_lt (Nat.lt_of_lt_of_le q153_ GW622.out); have hn623_3 : ad623.block ≠ gb622 := Nat.ne_of_lt (Nat.lt_of_lt_of_le q153_ GW622.out); replace hx623_0 := (HB.out.cell (World.block_lt_of_cell? w _ hx623_0)).trans hx623_0; replace hx623_0 := (cell_far (p := ⟨gb622, 0, none⟩) (by first | (rw [add_block]; exact hn623_0) | (show (Addr.add _ _).block ≠ _; rw [add_block]; exact hn623_0) | exact hn623_0) (.int .i64 ((rd_T52 l0_1 x25_2).f0.f0))).trans hx623_0; replace hx623_0 := (cell_far (p := ⟨gb622, 1, none⟩) (by first | (rw [add_block]; exact hn623_1) | (show (Addr.add _ _).block ≠ _; rw [add_block]; exact hn623_1) | exact hn623_1) (.int .i64 ((rd_T52 l0_1 x25_2).f0.f1))).trans hx623_0; replace hx623_0 := (cell_far (p := ⟨gb622, 2, none⟩) (by first | (rw [add_block]; exact hn623_2) | (show (Addr.add _ _).block ≠ _; rw [add_block]; exact hn623_2) | exact hn623_2) (.int .i64 ((rd_T52 l0_1 x25_2).f0.f2))).trans hx623_0; replace hx623_0 := (cell_far (p := ⟨gb622, 3, none⟩) (by first | (rw [add_block]; exact hn623_3) | (show (Addr.add _ _).block ≠ _; rw [add_block]; exact hn623_3) | exact hn623_3) (.slice (some ad623) ((rd_T52 l0_1 x25_2).f1).length c621_3)).trans hx623_0; clear hn623_0; clear hn623_1; clear hn623_2; clear hn623_3; replace p623 := eq_true p623; replace q623 := eq_true q623))
             go_roundg k2
             case measure => have := HK1.out; have := HK2.out; omega
             case rel => exact ⟨(x3_2), (wrap64 (x25_2 + 1)), q14_, H', ⟨q189_⟩, ⟨q159_⟩, ⟨q56_⟩, ⟨q104_⟩⟩
           ·rw [if_neg c18] at H
            exact absurd H (by simp)
          ·rw [if_neg c17] at H
           have c17b0 : ((((rd_T52 l0_1 x25_2).f1).length : Int) == 3) = false := beq_eq_false_iff_ne.mpr c17
           have c17b1 : ((((rd_T52 l0_1 x25_2).f1).length : Int) != 3) = true := bne_iff_ne.mpr c17
           have H' := Aside0.mk H
           clear H
           have p621 : 0 ≤ (x25_2 : Int) := of_decide_eq_true q4_
           have q621 : x25_2 < (l0_1.length : Int) := of_decide_eq_true q4_
           obtain ⟨ad621, A621_3, c621_3, e621, hx621_0, hx621_1, hx621_2, hx621_3, hl621_3, hi621_3⟩ := at_T52 HR0_1.out x25_2 p621 q621
           cases e621
           replace hx621_0 := (HB.out.cell (World.block_lt_of_cell? w _ hx621_0)).trans hx621_0
           replace hx621_1 := (HB.out.cell (World.block_lt_of_cell? w _ hx621_1)).trans hx621_1
           replace hx621_2 := (HB.out.cell (World.block_lt_of_cell? w _ hx621_2)).trans hx621_2
           replace hx621_3 := (HB.out.cell (World.block_lt_of_cell? w _ hx621_3)).trans hx621_3
           have HR621_3 := Aside0.mk hi621_3
           have HC621_3 := Aside0.mk hl621_3
           clear hi621_3 hl621_3
           replace p621 := eq_true p621
           replace q621 := eq_true q621
           go_wp2_with (first | ((with_reducible refine gate_dst (N := 7) rfl ?_); (try (refine gate_guard (by rfl) ?_; dsimp only)); refine box_event ?hg (N := 7) ?hd (cs := #[.int .i64 0, .int .i64 0, .int .i64 0, .slice none 0 0]) (t := 52) ?hr ?_; (case hd => rfl); (case hg => rfl); (case hr => first | (go_simp; done) | (go_simp; rfl)); intro gb622 hg w32 hbox hb; have n0_ := Aside0.mk (Kd.R_below q80_ hb); have n1_ := Aside0.mk (blk_below (g := gb615) (o := .cells #[.int .i64 a0_0, .slice (some ad621) l0_1.length c0_1, .slice A0_2 l0_2.length c0_2] 25 (0, 0)) q48_ hb); have n2_ := Aside0.mk (below_step q40_ hb); have n3_ := Aside0.mk (hbox); have n4_ := Aside0.mk ((by rw [hg]; exact (below_size q40_) : w.heap.size ≤ gb622)); have n5_ := Aside0.mk ((by rw [hg]; exact (below_size q40_) : w.heap.size ≤ gb622)); have n6_ := Aside0.mk ((q187_ : gb615 ≠ gb622)); have n7_ := Aside0.mk ((q188_ : gb622 ≠ gb615)); clear HO_3; clear BK615; clear HB; have HO_3 := n0_; have BK615 := n1_; have HB := n2_; have BK622 := n3_; have GW622 := n4_; have GE622 := n5_; have NB615_622 := n6_; have NB622_615 := n7_; clear n0_ n1_ n2_ n3_ n4_ n5_ n6_ n7_; clear hb hbox hg; have hnb33 := NB622_615.out; have hnc33 := NB615_622.out; have hcz34_0 : w32.cell? ⟨gb622, 0, none⟩ = some (.int .i64 0) := (blk_cell BK622.out 0).trans rfl; have hcz34_1 : w32.cell? ⟨gb622, 1, none⟩ = some (.int .i64 0) := (blk_cell BK622.out 1).trans rfl; have hcz34_2 : w32.cell? ⟨gb622, 2, none⟩ = some (.int .i64 0) := (blk_cell BK622.out 2).trans rfl; have hcz34_3 : w32.cell? ⟨gb622, 3, none⟩ = some (.slice none 0 0) := (blk_cell BK622.out 3).trans rfl; have hfz34_0 := blk_frozen BK622.out 0; have hfz34_1 := blk_frozen BK622.out 1; have hfz34_2 := blk_frozen BK622.out 2; have hfz34_3 := blk_frozen BK622.out 3))
           go_roundg k2
           case measure => have := HK1.out; have := HK2.out; omega
           case rel => exact ⟨(x3_2), (wrap64 (x25_2 + 1)), q14_, H', ⟨q189_⟩, ⟨q161_⟩, ⟨q56_⟩, ⟨q104_⟩⟩
         ·rw [if_neg c16] at H
          have c16b0 : (((rd_T52 l0_1 x25_2).f0.f1) == 3) = false := beq_eq_false_iff_ne.mpr c16
          have c16b1 : (((rd_T52 l0_1 x25_2).f0.f1) != 3) = true := bne_iff_ne.mpr c16
          have H' := Aside0.mk H
          clear H
          have p621 : 0 ≤ (x25_2 : Int) := of_decide_eq_true q4_
          have q621 : x25_2 < (l0_1.length : Int) := of_decide_eq_true q4_
          obtain ⟨ad621, A621_3, c621_3, e621, hx621_0, hx621_1, hx621_2, hx621_3, hl621_3, hi621_3⟩ := at_T52 HR0_1.out x25_2 p621 q621
          cases e621
          replace hx621_0 := (HB.out.cell (World.block_lt_of_cell? w _ hx621_0)).trans hx621_0
          replace hx621_1 := (HB.out.cell (World.block_lt_of_cell? w _ hx621_1)).trans hx621_1
          replace hx621_2 := (HB.out.cell (World.block_lt_of_cell? w _ hx621_2)).trans hx621_2
          replace hx621_3 := (HB.out.cell (World.block_lt_of_cell? w _ hx621_3)).trans hx621_3
          have HR621_3 := Aside0.mk hi621_3
          have HC621_3 := Aside0.mk hl621_3
          clear hi621_3 hl621_3
          replace p621 := eq_true p621
          replace q621 := eq_true q621
          go_wp2_with (first | ((with_reducible refine gate_dst (N := 7) rfl ?_); (try (refine gate_guard (by rfl) ?_; dsimp only)); refine box_event ?hg (N := 7) ?hd (cs := #[.int .i64 0, .int .i64 0, .int .i64 0, .slice none 0 0]) (t := 52) ?hr ?_; (case hd => rfl); (case hg => rfl); (case hr => first | (go_simp; done) | (go_simp; rfl)); intro gb622 hg w35 hbox hb; have n0_ := Aside0.mk (Kd.R_below q80_ hb); have n1_ := Aside0.mk (blk_below (g := gb615) (o := .cells #[.int .i64 a0_0, .slice (some ad621) l0_1.length c0_1, .slice A0_2 l0_2.length c0_2] 25 (0, 0)) q48_ hb); have n2_ := Aside0.mk (below_step q40_ hb); have n3_ := Aside0.mk (hbox); have n4_ := Aside0.mk ((by rw [hg]; exact (below_size q40_) : w.heap.size ≤ gb622)); have n5_ := Aside0.mk ((by rw [hg]; exact (below_size q40_) : w.heap.size ≤ gb622)); have n6_ := Aside0.mk ((q187_ : gb615 ≠ gb622)); have n7_ := Aside0.mk ((q188_ : gb622 ≠ gb615)); clear HO_3; clear BK615; clear HB; have HO_3 := n0_; have BK615 := n1_; have HB := n2_; have BK622 := n3_; have GW622 := n4_; have GE622 := n5_; have NB615_622 := n6_; have NB622_615 := n7_; clear n0_ n1_ n2_ n3_ n4_ n5_ n6_ n7_; clear hb hbox hg; have hnb36 := NB622_615.out; have hnc36 := NB615_622.out; have hcz37_0 : w35.cell? ⟨gb622, 0, none⟩ = some (.int .i64 0) := (blk_cell BK622.out 0).trans rfl; have hcz37_1 : w35.cell? ⟨gb622, 1, none⟩ = some (.int .i64 0) := (blk_cell BK622.out 1).trans rfl; have hcz37_2 : w35.cell? ⟨gb622, 2, none⟩ = some (.int .i64 0) := (blk_cell BK622.out 2).trans rfl; have hcz37_3 : w35.cell? ⟨gb622, 3, none⟩ = some (.slice none 0 0) := (blk_cell BK622.out 3).trans rfl; have hfz37_0 := blk_frozen BK622.out 0; have hfz37_1 := blk_frozen BK622.out 1; have hfz37_2 := blk_frozen BK622.out 2; have hfz37_3 := blk_frozen BK622.out 3))
          go_roundg k2
          case measure => have := HK1.out; have := HK2.out; omega
          case rel => exact ⟨(x3_2), (wrap64 (x25_2 + 1)), q14_, H', ⟨q189_⟩, ⟨q161_⟩, ⟨q56_⟩, ⟨q104_⟩⟩
        ·rw [if_neg c15] at H
         exact absurd H (by simp)
       ·rw [if_neg c14] at H
        exact absurd H (by simp)
      ·rw [if_neg c13] at H
       have c13b0 : decide (x25_2 < (l0_1.length : Int)) = false := decide_eq_false c13
       clear c13
       obtain rfl := Option.some.inj H
       go_wp2
       go_ret
       exact ⟨_, by first | rfl | (simp [errW_none, errW_some] <;> rfl) | (simp [*, errW_none, errW_some] <;> rfl), by (with_reducible repeat (first | apply Kd.R_alloc | apply Kd.R_drewN | apply Kd.R_drew)); exact HO_3.out, by repeat (first | (with_reducible first | exact HB.out | apply below_alloc | apply pw_below_drewN | apply below_drew1 | refine below_set ?_ GE615.out) | exact HB.out)⟩

end Go.Proofs.Ytcjnknpbikfimaa.P
