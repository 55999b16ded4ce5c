/- Functions and contracts, written by a program (mkprint.py, a wrapper of ours around the print); texts between GIVEN marks are ours. -/
import Derived.Test.YtcjnknpbikfimaaPx0
import Derived.Test.YtcjnknpbikfimaaPx1
import Derived.Test.YtcjnknpbikfimaaPx2
namespace Go.Proofs.Ytcjnknpbikfimaa.P
open Go.RowKit Go.Proofs.YtcjnknpbikfimaaW.PrintWords Go.Proofs.YtcjnknpbikfimaaW.PrintLast Go.Proofs.YtcjnknpbikfimaaW.PrintMore
attribute [local go_sem] max2_int min2_int max_two min_two max_three min_three max_four min_four   -- for this text's walks alone
set_option linter.unusedVariables false
set_option linter.unusedSimpArgs false
theorem q65_ {P : Prop} (h : P := by (with_reducible repeat (first | refine blk_drewN ?_ _ | refine blk_drew ?_ | refine blk_alloc ?_ _)); exact BK540.out) : P := h
theorem q93_ {P : Prop} (h : P := by repeat (first | (with_reducible first | exact HB.out | apply below_alloc | apply pw_below_drewN | apply below_drew1 | refine below_set ?_ GE540.out) | exact HB.out)) : P := h
theorem q103_ {P : Prop} (h : P := by repeat (first | (with_reducible first | exact HB.out | apply below_alloc | apply pw_below_drewN | apply below_drew1 | refine below_set ?_ GE540.out | refine below_set ?_ GE541.out) | exact HB.out)) : P := h
theorem q136_ {P : Prop} (h : P := by (with_reducible repeat (first | refine blk_drewN ?_ _ | refine blk_drew ?_ | refine blk_alloc ?_ _)); exact BK541.out) : P := h

attribute [local go_sem high] eqA35 eqA57
/-! ### cambiumref06_Same: function 25 -/
mutual
def cambiumref06_Same.j0 : Nat → Bool → Int → List (S52) → List (S57) → Int → List (S52) → List (S57) → Option (Bool)
 | 0, _, _, _, _, _, _, _ => none
 | k + 1, x29, x541000, x541001, x541002, x542000, x542001, x542002 => if x29 = true then (some false) else (cambiumref06_Same.l0 k 0 x541000 x541001 x541002 x542000 x542001 x542002)
def cambiumref06_Same.l0 : Nat → Int → Int → List (S52) → List (S57) → Int → List (S52) → List (S57) → Option (Bool)
 | 0, _, _, _, _, _, _, _ => none
 | k + 1, x5, x541000, x541001, x541002, x542000, x542001, x542002 => if x5 < (x541001.length : Int) then (if 0 ≤ x5 then (if x5 < (x542001.length : Int) then (if (!(((rd_T52 x541001 x5).f0.f0) == ((rd_T52 x542001 x5).f0.f0)) || (!(((rd_T52 x541001 x5).f0.f1) == ((rd_T52 x542001 x5).f0.f1)) || (!(((rd_T52 x541001 x5).f0.f2) == ((rd_T52 x542001 x5).f0.f2))))) = true then (some false) else (if (strOfNums ((rd_T52 x541001 x5).f1)).toList = (strOfNums ((rd_T52 x542001 x5).f1)).toList then (cambiumref06_Same.l0 k (wrap64 (x5 + 1)) x541000 x541001 x541002 x542000 x542001 x542002) else (some false))) else (none)) else (none)) else (cambiumref06_Same.l1 k 0 x541000 x541001 x541002 x542000 x542001 x542002)
def cambiumref06_Same.l1 : Nat → Int → Int → List (S52) → List (S57) → Int → List (S52) → List (S57) → Option (Bool)
 | 0, _, _, _, _, _, _, _ => none
 | k + 1, x6, x541000, x541001, x541002, x542000, x542001, x542002 => if x6 < (x541002.length : Int) then (if 0 ≤ x6 then (if x6 < (x542002.length : Int) then (if ((!(((rd_T57 x541002 x6).f0.f0) == ((rd_T57 x542002 x6).f0.f0)) || (!(((rd_T57 x541002 x6).f0.f1) == ((rd_T57 x542002 x6).f0.f1)) || (!(((rd_T57 x541002 x6).f0.f2) == ((rd_T57 x542002 x6).f0.f2))))) || (!(((rd_T57 x541002 x6).f1) == ((rd_T57 x542002 x6).f1)))) = true then (some false) else (cambiumref06_Same.l1 k (wrap64 (x6 + 1)) x541000 x541001 x541002 x542000 x542001 x542002)) else (none)) else (none)) else (some true)
end
def cambiumref06_Same.f (k : Nat) (a0_0 : Int) (l0_1 : List (S52)) (l0_2 : List (S57)) (a1_0 : Int) (l1_1 : List (S52)) (l1_2 : List (S57)) : Option (Bool) := if a0_0 = a1_0 then (if (l0_1.length : Int) = (l1_1.length : Int) then (cambiumref06_Same.j0 k ((l0_2.length : Int) != (l1_2.length : Int)) a0_0 l0_1 l0_2 a1_0 l1_1 l1_2) else (cambiumref06_Same.j0 k true a0_0 l0_1 l0_2 a1_0 l1_1 l1_2)) else (cambiumref06_Same.j0 k true a0_0 l0_1 l0_2 a1_0 l1_1 l1_2)
theorem cambiumref06_Same.mono_l : ∀ k, (∀ y0 y1 y2 y3 y4 y5 y6, LeO (cambiumref06_Same.j0 k y0 y1 y2 y3 y4 y5 y6) (cambiumref06_Same.j0 (k + 1) y0 y1 y2 y3 y4 y5 y6)) ∧ (∀ y0 y1 y2 y3 y4 y5 y6, LeO (cambiumref06_Same.l0 k y0 y1 y2 y3 y4 y5 y6) (cambiumref06_Same.l0 (k + 1) y0 y1 y2 y3 y4 y5 y6)) ∧ (∀ y0 y1 y2 y3 y4 y5 y6, LeO (cambiumref06_Same.l1 k y0 y1 y2 y3 y4 y5 y6) (cambiumref06_Same.l1 (k + 1) y0 y1 y2 y3 y4 y5 y6))
 | 0 => ⟨fun _ _ _ _ _ _ _ r h => by simp [cambiumref06_Same.j0] at h, fun _ _ _ _ _ _ _ r h => by simp [cambiumref06_Same.l0] at h, fun _ _ _ _ _ _ _ r h => by simp [cambiumref06_Same.l1] at h⟩
 | k + 1 => by
  obtain ⟨ih0, ih1, ih2⟩ := cambiumref06_Same.mono_l k
  refine ⟨?_, ?_, ?_⟩
  ·intro y0 y1 y2 y3 y4 y5 y6
   unfold cambiumref06_Same.j0
   repeat' first
   | (with_reducible exact ih0 _ _ _ _ _ _ _)
   | (with_reducible exact ih1 _ _ _ _ _ _ _)
   | (with_reducible exact ih2 _ _ _ _ _ _ _)
   | (with_reducible exact LeO.refl _)
   | (with_reducible exact LeO.none _)
   | (with_reducible refine LeO.ite ?_ ?_)
   | (with_reducible refine LeO.bind ?_ (fun _ => ?_))
   | exact ih0 _ _ _ _ _ _ _
   | exact ih1 _ _ _ _ _ _ _
   | exact ih2 _ _ _ _ _ _ _
   | exact LeO.none _
   | refine LeO.ite ?_ ?_
   | refine LeO.bind ?_ (fun _ => ?_)
  ·intro y0 y1 y2 y3 y4 y5 y6
   unfold cambiumref06_Same.l0
   repeat' first
   | (with_reducible exact ih0 _ _ _ _ _ _ _)
   | (with_reducible exact ih1 _ _ _ _ _ _ _)
   | (with_reducible exact ih2 _ _ _ _ _ _ _)
   | (with_reducible exact LeO.refl _)
   | (with_reducible exact LeO.none _)
   | (with_reducible refine LeO.ite ?_ ?_)
   | (with_reducible refine LeO.bind ?_ (fun _ => ?_))
   | exact ih0 _ _ _ _ _ _ _
   | exact ih1 _ _ _ _ _ _ _
   | exact ih2 _ _ _ _ _ _ _
   | exact LeO.none _
   | refine LeO.ite ?_ ?_
   | refine LeO.bind ?_ (fun _ => ?_)
  ·intro y0 y1 y2 y3 y4 y5 y6
   unfold cambiumref06_Same.l1
   repeat' first
   | (with_reducible exact ih0 _ _ _ _ _ _ _)
   | (with_reducible exact ih1 _ _ _ _ _ _ _)
   | (with_reducible exact ih2 _ _ _ _ _ _ _)
   | (with_reducible exact LeO.refl _)
   | (with_reducible exact LeO.none _)
   | (with_reducible refine LeO.ite ?_ ?_)
   | (with_reducible refine LeO.bind ?_ (fun _ => ?_))
   | exact ih0 _ _ _ _ _ _ _
   | exact ih1 _ _ _ _ _ _ _
   | exact ih2 _ _ _ _ _ _ _
   | exact LeO.none _
   | refine LeO.ite ?_ ?_
   | refine LeO.bind ?_ (fun _ => ?_)
theorem cambiumref06_Same.mono : ∀ a0 a1 a2 a3 a4 a5 k, LeO (cambiumref06_Same.f k a0 a1 a2 a3 a4 a5) (cambiumref06_Same.f (k + 1) a0 a1 a2 a3 a4 a5) := by
 intro a0 a1 a2 a3 a4 a5 k
 obtain ⟨ih0, ih1, ih2⟩ := cambiumref06_Same.mono_l k
 unfold cambiumref06_Same.f
 repeat' first
   | (with_reducible exact ih0 _ _ _ _ _ _ _)
   | (with_reducible exact ih1 _ _ _ _ _ _ _)
   | (with_reducible exact ih2 _ _ _ _ _ _ _)
   | (with_reducible exact LeO.refl _)
   | (with_reducible exact LeO.none _)
   | (with_reducible refine LeO.ite ?_ ?_)
   | (with_reducible refine LeO.bind ?_ (fun _ => ?_))
   | exact ih0 _ _ _ _ _ _ _
   | exact ih1 _ _ _ _ _ _ _
   | exact ih2 _ _ _ _ _ _ _
   | exact LeO.none _
   | refine LeO.ite ?_ ?_
   | refine LeO.bind ?_ (fun _ => ?_)
set_option maxHeartbeats 8000000 in
set_option maxRecDepth 100000 in
theorem cambiumref06_Same.calls (k : Nat) (a0_0 : Int) (A0_1 : Option Addr) (c0_1 : Nat) (l0_1 : List (S52)) (A0_2 : Option Addr) (c0_2 : Nat) (l0_2 : List (S57)) (a1_0 : Int) (A1_1 : Option Addr) (c1_1 : Nat) (l1_1 : List (S52)) (A1_2 : Option Addr) (c1_2 : Nat) (l1_2 : List (S57)) (r : Bool) (w : World) (hr0_1 : Kd.C k52 w A0_1 l0_1.length l0_1) (hc0_1 : l0_1.length ≤ c0_1) (hr0_2 : Kd.C k57 w A0_2 l0_2.length l0_2) (hc0_2 : l0_2.length ≤ c0_2) (hr1_1 : Kd.C k52 w A1_1 l1_1.length l1_1) (hc1_1 : l1_1.length ≤ c1_1) (hr1_2 : Kd.C k57 w A1_2 l1_2.length l1_2) (hc1_2 : l1_2.length ≤ c1_2) (h : cambiumref06_Same.f k a0_0 l0_1 l0_2 a1_0 l1_1 l1_2 = some r) :
  Calls Try.prog 25 #[.agg #[.int .i64 a0_0, .slice A0_1 l0_1.length c0_1, .slice A0_2 l0_2.length c0_2], .agg #[.int .i64 a1_0, .slice A1_1 l1_1.length c1_1, .slice A1_2 l1_2.length c1_2]] w fun e w' => e = .returned (.bool r) ∧ Below w.heap.size w w' := by
 have hu25 := Try.underlying25
 have hu35 := Try.underlying35
 have hu57 := Try.underlying57
 have HR0_1 := Aside0.mk hr0_1
 have HC0_1 := Aside0.mk hc0_1
 clear hr0_1 hc0_1
 have HR0_2 := Aside0.mk hr0_2
 have HC0_2 := Aside0.mk hc0_2
 clear hr0_2 hc0_2
 have HR1_1 := Aside0.mk hr1_1
 have HC1_1 := Aside0.mk hc1_1
 clear hr1_1 hc1_1
 have HR1_2 := Aside0.mk hr1_2
 have HC1_2 := Aside0.mk hc1_2
 clear hr1_2 hc1_2
 have HB := Aside0.mk (Below.refl w.heap.size w)
 have H : (if a0_0 = a1_0 then (if (l0_1.length : Int) = (l1_1.length : Int) then (cambiumref06_Same.j0 k ((l0_2.length : Int) != (l1_2.length : Int)) a0_0 l0_1 l0_2 a1_0 l1_1 l1_2) else (cambiumref06_Same.j0 k true a0_0 l0_1 l0_2 a1_0 l1_1 l1_2)) else (cambiumref06_Same.j0 k true a0_0 l0_1 l0_2 a1_0 l1_1 l1_2)) = some r := h
 clear h
 have HC3 := Aside0.mk H
 clear H
 go_enter Try.func25, Try.ntmps25
 go_upto_region 1 with (first | ((with_reducible refine gate_dst (N := 2) rfl ?_); (try (refine gate_guard (by rfl) ?_; dsimp only)); refine box_event ?hg (N := 2) ?hd (cs := #[.int .i64 a0_0, .slice A0_1 l0_1.length c0_1, .slice A0_2 l0_2.length c0_2]) (t := 25) ?hr ?_; (case hd => rfl); (case hg => rfl); (case hr => first | (go_simp; done) | (go_simp; rfl)); intro gb540 hg w4 hbox hb; have n0_ := Aside0.mk (below_step q0_ hb); have n1_ := Aside0.mk (hbox); have n2_ := Aside0.mk ((by rw [hg]; exact (below_size q0_) : w.heap.size ≤ gb540)); have n3_ := Aside0.mk ((by rw [hg]; exact (below_size q0_) : w.heap.size ≤ gb540)); clear HB; have HB := n0_; have BK540 := n1_; have GW540 := n2_; have GE540 := n3_; clear n0_ n1_ n2_ n3_; clear hb hbox hg) | ((with_reducible refine gate_dst (N := 3) rfl ?_); (try (refine gate_guard (by rfl) ?_; dsimp only)); refine box_event ?hg (N := 3) ?hd (cs := #[.int .i64 a1_0, .slice A1_1 l1_1.length c1_1, .slice A1_2 l1_2.length c1_2]) (t := 25) ?hr ?_; (case hd => rfl); (case hg => rfl); (case hr => first | (go_simp; done) | (go_simp; rfl)); intro gb541 hg w5 hbox hb; have n0_ := Aside0.mk (blk_below (g := gb540) (o := .cells #[.int .i64 a0_0, .slice A0_1 l0_1.length c0_1, .slice A0_2 l0_2.length c0_2] 25 (0, 0)) q65_ hb); have n1_ := Aside0.mk (below_step q93_ hb); have n2_ := Aside0.mk (hbox); have n3_ := Aside0.mk ((by rw [hg]; exact (below_size q93_) : w.heap.size ≤ gb541)); have n4_ := Aside0.mk ((by rw [hg]; exact (below_size q93_) : w.heap.size ≤ gb541)); have n5_ := Aside0.mk ((by rw [hg]; exact Nat.ne_of_lt (blk_lt (g := gb540) (o := .cells #[.int .i64 a0_0, .slice A0_1 l0_1.length c0_1, .slice A0_2 l0_2.length c0_2] 25 (0, 0)) q65_) : gb540 ≠ gb541)); have n6_ := Aside0.mk ((by rw [hg]; exact Nat.ne_of_gt (blk_lt (g := gb540) (o := .cells #[.int .i64 a0_0, .slice A0_1 l0_1.length c0_1, .slice A0_2 l0_2.length c0_2] 25 (0, 0)) q65_) : gb541 ≠ gb540)); clear BK540; clear HB; have BK540 := n0_; have HB := n1_; have BK541 := n2_; have GW541 := n3_; have GE541 := n4_; have NB540_541 := n5_; have NB541_540 := n6_; clear n0_ n1_ n2_ n3_ n4_ n5_ n6_; clear hb hbox hg))
 repeat (go_quiet (first | ((with_reducible refine gate_dst (N := 2) rfl ?_); (try (refine gate_guard (by rfl) ?_; dsimp only)); refine box_event ?hg (N := 2) ?hd (cs := #[.int .i64 a0_0, .slice A0_1 l0_1.length c0_1, .slice A0_2 l0_2.length c0_2]) (t := 25) ?hr ?_; (case hd => rfl); (case hg => rfl); (case hr => first | (go_simp; done) | (go_simp; rfl)); intro gb540 hg w4 hbox hb; have n0_ := Aside0.mk (below_step q0_ hb); have n1_ := Aside0.mk (hbox); have n2_ := Aside0.mk ((by rw [hg]; exact (below_size q0_) : w.heap.size ≤ gb540)); have n3_ := Aside0.mk ((by rw [hg]; exact (below_size q0_) : w.heap.size ≤ gb540)); clear HB; have HB := n0_; have BK540 := n1_; have GW540 := n2_; have GE540 := n3_; clear n0_ n1_ n2_ n3_; clear hb hbox hg) | ((with_reducible refine gate_dst (N := 3) rfl ?_); (try (refine gate_guard (by rfl) ?_; dsimp only)); refine box_event ?hg (N := 3) ?hd (cs := #[.int .i64 a1_0, .slice A1_1 l1_1.length c1_1, .slice A1_2 l1_2.length c1_2]) (t := 25) ?hr ?_; (case hd => rfl); (case hg => rfl); (case hr => first | (go_simp; done) | (go_simp; rfl)); intro gb541 hg w5 hbox hb; have n0_ := Aside0.mk (blk_below (g := gb540) (o := .cells #[.int .i64 a0_0, .slice A0_1 l0_1.length c0_1, .slice A0_2 l0_2.length c0_2] 25 (0, 0)) q65_ hb); have n1_ := Aside0.mk (below_step q93_ hb); have n2_ := Aside0.mk (hbox); have n3_ := Aside0.mk ((by rw [hg]; exact (below_size q93_) : w.heap.size ≤ gb541)); have n4_ := Aside0.mk ((by rw [hg]; exact (below_size q93_) : w.heap.size ≤ gb541)); have n5_ := Aside0.mk ((by rw [hg]; exact Nat.ne_of_lt (blk_lt (g := gb540) (o := .cells #[.int .i64 a0_0, .slice A0_1 l0_1.length c0_1, .slice A0_2 l0_2.length c0_2] 25 (0, 0)) q65_) : gb540 ≠ gb541)); have n6_ := Aside0.mk ((by rw [hg]; exact Nat.ne_of_gt (blk_lt (g := gb540) (o := .cells #[.int .i64 a0_0, .slice A0_1 l0_1.length c0_1, .slice A0_2 l0_2.length c0_2] 25 (0, 0)) q65_) : gb541 ≠ gb540)); clear BK540; clear HB; have BK540 := n0_; have HB := n1_; have BK541 := n2_; have GW541 := n3_; have GE541 := n4_; have NB540_541 := n5_; have NB541_540 := n6_; clear n0_ n1_ n2_ n3_ n4_ n5_ n6_; clear hb hbox hg)); go_upto_region 1 with (first | ((with_reducible refine gate_dst (N := 2) rfl ?_); (try (refine gate_guard (by rfl) ?_; dsimp only)); refine box_event ?hg (N := 2) ?hd (cs := #[.int .i64 a0_0, .slice A0_1 l0_1.length c0_1, .slice A0_2 l0_2.length c0_2]) (t := 25) ?hr ?_; (case hd => rfl); (case hg => rfl); (case hr => first | (go_simp; done) | (go_simp; rfl)); intro gb540 hg w4 hbox hb; have n0_ := Aside0.mk (below_step q0_ hb); have n1_ := Aside0.mk (hbox); have n2_ := Aside0.mk ((by rw [hg]; exact (below_size q0_) : w.heap.size ≤ gb540)); have n3_ := Aside0.mk ((by rw [hg]; exact (below_size q0_) : w.heap.size ≤ gb540)); clear HB; have HB := n0_; have BK540 := n1_; have GW540 := n2_; have GE540 := n3_; clear n0_ n1_ n2_ n3_; clear hb hbox hg) | ((with_reducible refine gate_dst (N := 3) rfl ?_); (try (refine gate_guard (by rfl) ?_; dsimp only)); refine box_event ?hg (N := 3) ?hd (cs := #[.int .i64 a1_0, .slice A1_1 l1_1.length c1_1, .slice A1_2 l1_2.length c1_2]) (t := 25) ?hr ?_; (case hd => rfl); (case hg => rfl); (case hr => first | (go_simp; done) | (go_simp; rfl)); intro gb541 hg w5 hbox hb; have n0_ := Aside0.mk (blk_below (g := gb540) (o := .cells #[.int .i64 a0_0, .slice A0_1 l0_1.length c0_1, .slice A0_2 l0_2.length c0_2] 25 (0, 0)) q65_ hb); have n1_ := Aside0.mk (below_step q93_ hb); have n2_ := Aside0.mk (hbox); have n3_ := Aside0.mk ((by rw [hg]; exact (below_size q93_) : w.heap.size ≤ gb541)); have n4_ := Aside0.mk ((by rw [hg]; exact (below_size q93_) : w.heap.size ≤ gb541)); have n5_ := Aside0.mk ((by rw [hg]; exact Nat.ne_of_lt (blk_lt (g := gb540) (o := .cells #[.int .i64 a0_0, .slice A0_1 l0_1.length c0_1, .slice A0_2 l0_2.length c0_2] 25 (0, 0)) q65_) : gb540 ≠ gb541)); have n6_ := Aside0.mk ((by rw [hg]; exact Nat.ne_of_gt (blk_lt (g := gb540) (o := .cells #[.int .i64 a0_0, .slice A0_1 l0_1.length c0_1, .slice A0_2 l0_2.length c0_2] 25 (0, 0)) q65_) : gb541 ≠ gb540)); clear BK540; clear HB; have BK540 := n0_; have HB := n1_; have BK541 := n2_; have GW541 := n3_; have GE541 := n4_; have NB540_541 := n5_; have NB541_540 := n6_; clear n0_ n1_ n2_ n3_ n4_ n5_ n6_; clear hb hbox hg)))
 (try simp only [Act.put, List.setIfInBounds_toArray, List.set_cons_zero, List.set_cons_succ])
 go_cut [29] (fun v29 wc => ∃ (kq : Nat) (x29_2 : Bool), v29 = .bool x29_2 ∧ Aside0 (cambiumref06_Same.j0 kq x29_2 a0_0 l0_1 l0_2 a1_0 l1_1 l1_2 = some r) ∧ Aside0 (kq ≤ k) ∧ Aside0 (wc.heap[gb540]? = some (.cells #[.int .i64 a0_0, (.slice A0_1 l0_1.length c0_1), (.slice A0_2 l0_2.length c0_2)] 25 (0, 0))) ∧ Aside0 (wc.heap[gb541]? = some (.cells #[.int .i64 a1_0, (.slice A1_1 l1_1.length c1_1), (.slice A1_2 l1_2.length c1_2)] 25 (0, 0))) ∧ Aside0 (Below w.heap.size w wc))
 case first =>
  have H := HC3.out
  clear HC3
  by_cases c6 : a0_0 = a1_0
  ·rw [if_pos c6] at H
   have c6b0 : (a0_0 == a1_0) = true := beq_iff_eq.mpr c6
   have c6b1 : (a0_0 != a1_0) = false := bne_eq_false_iff_eq.mpr c6
   clear c6
   (first | rw [c6b0] | (simp only [i64_w, i32_w]; rw [c6b0]) | skip)
   by_cases c7 : (l0_1.length : Int) = (l1_1.length : Int)
   ·rw [if_pos c7] at H
    have c7b0 : ((l0_1.length : Int) == (l1_1.length : Int)) = true := beq_iff_eq.mpr c7
    have c7b1 : ((l0_1.length : Int) != (l1_1.length : Int)) = false := bne_eq_false_iff_eq.mpr c7
    have c7b2 : (l0_1.length == l1_1.length) = true := by first | simpa using c7 | (simp at c7 ⊢; omega)
    clear c7
    have H' := Aside0.mk H
    clear H
    have hnb8 := NB540_541.out
    have hnc8 := NB541_540.out
    have hcz9_0 : w5.cell? ⟨gb540, 0, none⟩ = some (.int .i64 a0_0) := (blk_cell BK540.out 0).trans rfl
    have hcz9_1 : w5.cell? ⟨gb540, 1, none⟩ = some (.slice A0_1 l0_1.length c0_1) := (blk_cell BK540.out 1).trans rfl
    have hcz9_2 : w5.cell? ⟨gb540, 2, none⟩ = some (.slice A0_2 l0_2.length c0_2) := (blk_cell BK540.out 2).trans rfl
    have hfz9_0 := blk_frozen BK540.out 0
    have hfz9_1 := blk_frozen BK540.out 1
    have hfz9_2 := blk_frozen BK540.out 2
    have hcz10_0 : w5.cell? ⟨gb541, 0, none⟩ = some (.int .i64 a1_0) := (blk_cell BK541.out 0).trans rfl
    have hcz10_1 : w5.cell? ⟨gb541, 1, none⟩ = some (.slice A1_1 l1_1.length c1_1) := (blk_cell BK541.out 1).trans rfl
    have hcz10_2 : w5.cell? ⟨gb541, 2, none⟩ = some (.slice A1_2 l1_2.length c1_2) := (blk_cell BK541.out 2).trans rfl
    have hfz10_0 := blk_frozen BK541.out 0
    have hfz10_1 := blk_frozen BK541.out 1
    have hfz10_2 := blk_frozen BK541.out 2
    go_wp2
    repeat (go_quiet (fail); try go_wp2)
    go_meet
    case rel => exact ⟨_, (((l0_2.length : Int) != (l1_2.length : Int))), q14_, H', ⟨q219_⟩, ⟨q65_⟩, ⟨q136_⟩, ⟨q103_⟩⟩
   ·rw [if_neg c7] at H
    have c7b0 : ((l0_1.length : Int) == (l1_1.length : Int)) = false := beq_eq_false_iff_ne.mpr c7
    have c7b1 : ((l0_1.length : Int) != (l1_1.length : Int)) = true := bne_iff_ne.mpr c7
    have c7b2 : (l0_1.length == l1_1.length) = false := by first | simpa using c7 | (simp at c7 ⊢; omega)
    have H' := Aside0.mk H
    clear H
    have hnb11 := NB540_541.out
    have hnc11 := NB541_540.out
    have hcz12_0 : w5.cell? ⟨gb540, 0, none⟩ = some (.int .i64 a0_0) := (blk_cell BK540.out 0).trans rfl
    have hcz12_1 : w5.cell? ⟨gb540, 1, none⟩ = some (.slice A0_1 l0_1.length c0_1) := (blk_cell BK540.out 1).trans rfl
    have hcz12_2 : w5.cell? ⟨gb540, 2, none⟩ = some (.slice A0_2 l0_2.length c0_2) := (blk_cell BK540.out 2).trans rfl
    have hfz12_0 := blk_frozen BK540.out 0
    have hfz12_1 := blk_frozen BK540.out 1
    have hfz12_2 := blk_frozen BK540.out 2
    have hcz13_0 : w5.cell? ⟨gb541, 0, none⟩ = some (.int .i64 a1_0) := (blk_cell BK541.out 0).trans rfl
    have hcz13_1 : w5.cell? ⟨gb541, 1, none⟩ = some (.slice A1_1 l1_1.length c1_1) := (blk_cell BK541.out 1).trans rfl
    have hcz13_2 : w5.cell? ⟨gb541, 2, none⟩ = some (.slice A1_2 l1_2.length c1_2) := (blk_cell BK541.out 2).trans rfl
    have hfz13_0 := blk_frozen BK541.out 0
    have hfz13_1 := blk_frozen BK541.out 1
    have hfz13_2 := blk_frozen BK541.out 2
    go_wp2
    repeat (go_quiet (fail); try go_wp2)
    go_meet
    case rel => exact ⟨_, (true), q14_, H', ⟨q219_⟩, ⟨q65_⟩, ⟨q136_⟩, ⟨q103_⟩⟩
  ·rw [if_neg c6] at H
   have c6b0 : (a0_0 == a1_0) = false := beq_eq_false_iff_ne.mpr c6
   have c6b1 : (a0_0 != a1_0) = true := bne_iff_ne.mpr c6
   (first | rw [c6b0] | (simp only [i64_w, i32_w]; rw [c6b0]) | skip)
   have H' := Aside0.mk H
   clear H
   have hnb14 := NB540_541.out
   have hnc14 := NB541_540.out
   have hcz15_0 : w5.cell? ⟨gb540, 0, none⟩ = some (.int .i64 a0_0) := (blk_cell BK540.out 0).trans rfl
   have hcz15_1 : w5.cell? ⟨gb540, 1, none⟩ = some (.slice A0_1 l0_1.length c0_1) := (blk_cell BK540.out 1).trans rfl
   have hcz15_2 : w5.cell? ⟨gb540, 2, none⟩ = some (.slice A0_2 l0_2.length c0_2) := (blk_cell BK540.out 2).trans rfl
   have hfz15_0 := blk_frozen BK540.out 0
   have hfz15_1 := blk_frozen BK540.out 1
   have hfz15_2 := blk_frozen BK540.out 2
   have hcz16_0 : w5.cell? ⟨gb541, 0, none⟩ = some (.int .i64 a1_0) := (blk_cell BK541.out 0).trans rfl
   have hcz16_1 : w5.cell? ⟨gb541, 1, none⟩ = some (.slice A1_1 l1_1.length c1_1) := (blk_cell BK541.out 1).trans rfl
   have hcz16_2 : w5.cell? ⟨gb541, 2, none⟩ = some (.slice A1_2 l1_2.length c1_2) := (blk_cell BK541.out 2).trans rfl
   have hfz16_0 := blk_frozen BK541.out 0
   have hfz16_1 := blk_frozen BK541.out 1
   have hfz16_2 := blk_frozen BK541.out 2
   go_wp2
   repeat (go_quiet (fail); try go_wp2)
   go_meet
   case rel => exact ⟨_, (true), q14_, H', ⟨q219_⟩, ⟨q65_⟩, ⟨q136_⟩, ⟨q103_⟩⟩
 case rest =>
  clear HC3
  try clear c1
  try clear c2
  try clear p2
  try clear c6
  try clear c6b0
  try clear c6b1
  try clear c7
  try clear c7b0
  try clear c7b1
  try clear c7b2
  try clear c8
  try clear c11
  try clear c14
  try clear hcz10_0
  try clear hcz10_1
  try clear hcz10_2
  try clear hcz12_0
  try clear hcz12_1
  try clear hcz12_2
  try clear hcz13_0
  try clear hcz13_1
  try clear hcz13_2
  try clear hcz15_0
  try clear hcz15_1
  try clear hcz15_2
  try clear hcz16_0
  try clear hcz16_1
  try clear hcz16_2
  try clear hcz9_0
  try clear hcz9_1
  try clear hcz9_2
  try clear hfz10_0
  try clear hfz10_1
  try clear hfz10_2
  try clear hfz12_0
  try clear hfz12_1
  try clear hfz12_2
  try clear hfz13_0
  try clear hfz13_1
  try clear hfz13_2
  try clear hfz15_0
  try clear hfz15_1
  try clear hfz15_2
  try clear hfz16_0
  try clear hfz16_1
  try clear hfz16_2
  try clear hfz9_0
  try clear hfz9_1
  try clear hfz9_2
  obtain ⟨kq, x29_2, rfl, HA, HJ2, BK540, BK541, HB⟩ := hcut
  cases kq with
  | zero => exact absurd (show none = some _ from HA.out) (by simp)
  | succ kj2 =>
   have H := HA.out
   clear HA
   simp only [cambiumref06_Same.j0] at H
   by_cases c17 : x29_2 = true
   ·subst c17
    have H1 : (some false) = some r := by rw [if_pos rfl] at H; exact H
    clear H
    have H := H1
    clear H1
    obtain rfl := Option.some.inj H
    go_wp2
    repeat (go_quiet (fail); try go_wp2)
    go_ret
    exact ⟨q6_, by repeat (first | (with_reducible first | exact HB.out | apply below_alloc | apply pw_below_drewN | apply below_drew1 | refine below_set ?_ GE540.out | refine below_set ?_ GE541.out) | exact HB.out)⟩
   ·replace c17 := Bool.eq_false_iff.mpr c17
    subst c17
    have H1 : (cambiumref06_Same.l0 kj2 0 a0_0 l0_1 l0_2 a1_0 l1_1 l1_2) = some r := by rw [if_neg (show ¬ (false = true) by decide)] at H; exact H
    clear H
    have H := H1
    clear H1
    have H' := Aside0.mk H
    clear H
    go_wp2
    repeat (go_quiet (fail); try go_wp2)
    go_loopg [5] kj2 (fun kq v5 w' => ∃ (x5_2 : Int), v5 = .int .i64 x5_2 ∧ Aside0 (cambiumref06_Same.l0 kq x5_2 a0_0 l0_1 l0_2 a1_0 l1_1 l1_2 = some r) ∧ Aside0 (kq ≤ kj2) ∧ Aside0 (w'.heap[gb540]? = some (.cells #[.int .i64 a0_0, (.slice A0_1 l0_1.length c0_1), (.slice A0_2 l0_2.length c0_2)] 25 (0, 0))) ∧ Aside0 (w'.heap[gb541]? = some (.cells #[.int .i64 a1_0, (.slice A1_1 l1_1.length c1_1), (.slice A1_2 l1_2.length c1_2)] 25 (0, 0))) ∧ Aside0 (Below w.heap.size w w'))
    case atStart => exact ⟨(0), q14_, H', ⟨Nat.le_refl _⟩, ⟨q65_⟩, ⟨q136_⟩, ⟨q103_⟩⟩
    case round =>
     clear H'
     try clear c1
     try clear c2
     try clear p2
     try clear c6
     try clear c6b0
     try clear c6b1
     try clear c7
     try clear c7b0
     try clear c7b1
     try clear c7b2
     try clear c8
     try clear c11
     try clear c14
     try clear c17
     try clear hcz10_0
     try clear hcz10_1
     try clear hcz10_2
     try clear hcz12_0
     try clear hcz12_1
     try clear hcz12_2
     try clear hcz13_0
     try clear hcz13_1
     try clear hcz13_2
     try clear hcz15_0
     try clear hcz15_1
     try clear hcz15_2
     try clear hcz16_0
     try clear hcz16_1
     try clear hcz16_2
     try clear hcz9_0
     try clear hcz9_1
     try clear hcz9_2
     try clear hfz10_0
     try clear hfz10_1
     try clear hfz10_2
     try clear hfz12_0
     try clear hfz12_1
     try clear hfz12_2
     try clear hfz13_0
     try clear hfz13_1
     try clear hfz13_2
     try clear hfz15_0
     try clear hfz15_1
     try clear hfz15_2
     try clear hfz16_0
     try clear hfz16_1
     try clear hfz16_2
     try clear hfz9_0
     try clear hfz9_1
     try clear hfz9_2
     try clear p2
     obtain ⟨x5_2, rfl, HA, HK2, BK540, BK541, HB⟩ := hrel
     cases gk with
     | zero => exact absurd (show none = some _ from HA.out) (by simp)
     | succ k2 =>
      have H := HA.out
      clear HA
      simp only [cambiumref06_Same.l0] at H
      by_cases c18 : x5_2 < (l0_1.length : Int)
      ·rw [if_pos c18] at H
       have c18b0 : decide (x5_2 < (l0_1.length : Int)) = true := decide_eq_true c18
       clear c18
       by_cases c19 : 0 ≤ x5_2
       ·rw [if_pos c19] at H
        have c19b0 : decide (0 ≤ x5_2) = true := decide_eq_true c19
        clear c19
        by_cases c20 : x5_2 < (l1_1.length : Int)
        ·rw [if_pos c20] at H
         have c20b0 : decide (x5_2 < (l1_1.length : Int)) = true := decide_eq_true c20
         clear c20
         by_cases c21 : (!(((rd_T52 l0_1 x5_2).f0.f0) == ((rd_T52 l1_1 x5_2).f0.f0)) || (!(((rd_T52 l0_1 x5_2).f0.f1) == ((rd_T52 l1_1 x5_2).f0.f1)) || (!(((rd_T52 l0_1 x5_2).f0.f2) == ((rd_T52 l1_1 x5_2).f0.f2))))) = true
         ·rw [if_pos c21] at H
          have c21b0 : (!(((rd_T52 l0_1 x5_2).f0.f0) == ((rd_T52 l1_1 x5_2).f0.f0)) || (!(((rd_T52 l0_1 x5_2).f0.f1) == ((rd_T52 l1_1 x5_2).f0.f1)) || (!(((rd_T52 l0_1 x5_2).f0.f2) == ((rd_T52 l1_1 x5_2).f0.f2))))) = true := c21
          clear c21
          obtain rfl := Option.some.inj H
          have hnb22 := NB540_541.out
          have hnc22 := NB541_540.out
          have hcz23_0 : wr.cell? ⟨gb540, 0, none⟩ = some (.int .i64 a0_0) := (blk_cell BK540.out 0).trans rfl
          have hcz23_1 : wr.cell? ⟨gb540, 1, none⟩ = some (.slice A0_1 l0_1.length c0_1) := (blk_cell BK540.out 1).trans rfl
          have hcz23_2 : wr.cell? ⟨gb540, 2, none⟩ = some (.slice A0_2 l0_2.length c0_2) := (blk_cell BK540.out 2).trans rfl
          have hfz23_0 := blk_frozen BK540.out 0
          have hfz23_1 := blk_frozen BK540.out 1
          have hfz23_2 := blk_frozen BK540.out 2
          have p542 : 0 ≤ (x5_2 : Int) := of_decide_eq_true q4_
          have q542 : x5_2 < (l0_1.length : Int) := of_decide_eq_true q4_
          obtain ⟨ad542, A542_3, c542_3, e542, hx542_0, hx542_1, hx542_2, hx542_3, hl542_3, hi542_3⟩ := at_T52 HR0_1.out x5_2 p542 q542
          cases e542
          replace hx542_0 := (HB.out.cell (World.block_lt_of_cell? w _ hx542_0)).trans hx542_0
          replace hx542_1 := (HB.out.cell (World.block_lt_of_cell? w _ hx542_1)).trans hx542_1
          replace hx542_2 := (HB.out.cell (World.block_lt_of_cell? w _ hx542_2)).trans hx542_2
          replace hx542_3 := (HB.out.cell (World.block_lt_of_cell? w _ hx542_3)).trans hx542_3
          have HR542_3 := Aside0.mk hi542_3
          have HC542_3 := Aside0.mk hl542_3
          clear hi542_3 hl542_3
          replace p542 := eq_true p542
          replace q542 := eq_true q542
          have hcz24_0 : wr.cell? ⟨gb541, 0, none⟩ = some (.int .i64 a1_0) := (blk_cell BK541.out 0).trans rfl
          have hcz24_1 : wr.cell? ⟨gb541, 1, none⟩ = some (.slice A1_1 l1_1.length c1_1) := (blk_cell BK541.out 1).trans rfl
          have hcz24_2 : wr.cell? ⟨gb541, 2, none⟩ = some (.slice A1_2 l1_2.length c1_2) := (blk_cell BK541.out 2).trans rfl
          have hfz24_0 := blk_frozen BK541.out 0
          have hfz24_1 := blk_frozen BK541.out 1
          have hfz24_2 := blk_frozen BK541.out 2
          have p543 : 0 ≤ (x5_2 : Int) := of_decide_eq_true q4_
          have q543 : x5_2 < (l1_1.length : Int) := of_decide_eq_true q4_
          obtain ⟨ad543, A543_3, c543_3, e543, hx543_0, hx543_1, hx543_2, hx543_3, hl543_3, hi543_3⟩ := at_T52 HR1_1.out x5_2 p543 q543
          cases e543
          replace hx543_0 := (HB.out.cell (World.block_lt_of_cell? w _ hx543_0)).trans hx543_0
          replace hx543_1 := (HB.out.cell (World.block_lt_of_cell? w _ hx543_1)).trans hx543_1
          replace hx543_2 := (HB.out.cell (World.block_lt_of_cell? w _ hx543_2)).trans hx543_2
          replace hx543_3 := (HB.out.cell (World.block_lt_of_cell? w _ hx543_3)).trans hx543_3
          have HR543_3 := Aside0.mk hi543_3
          have HC543_3 := Aside0.mk hl543_3
          clear hi543_3 hl543_3
          replace p543 := eq_true p543
          replace q543 := eq_true q543
          go_wp2
          repeat (go_quiet (fail); try go_wp2)
          go_ret
          exact ⟨q6_, by repeat (first | (with_reducible first | exact HB.out | apply below_alloc | apply pw_below_drewN | apply below_drew1 | refine below_set ?_ GE540.out | refine below_set ?_ GE541.out) | exact HB.out)⟩
         ·rw [if_neg c21] at H
          have c21b0 : (!(((rd_T52 l0_1 x5_2).f0.f0) == ((rd_T52 l1_1 x5_2).f0.f0)) || (!(((rd_T52 l0_1 x5_2).f0.f1) == ((rd_T52 l1_1 x5_2).f0.f1)) || (!(((rd_T52 l0_1 x5_2).f0.f2) == ((rd_T52 l1_1 x5_2).f0.f2))))) = false := by simpa using c21
          clear c21
          by_cases c25 : (strOfNums ((rd_T52 l0_1 x5_2).f1)).toList = (strOfNums ((rd_T52 l1_1 x5_2).f1)).toList
          ·rw [if_pos c25] at H
           have c25b0 : ((strOfNums ((rd_T52 l0_1 x5_2).f1)).toList == (strOfNums ((rd_T52 l1_1 x5_2).f1)).toList) = true := beq_iff_eq.mpr c25
           have c25b1 : ((strOfNums ((rd_T52 l0_1 x5_2).f1)).toList != (strOfNums ((rd_T52 l1_1 x5_2).f1)).toList) = false := bne_eq_false_iff_eq.mpr c25
           clear c25
           have H' := Aside0.mk H
           clear H
           have hnb26 := NB540_541.out
           have hnc26 := NB541_540.out
           have hcz27_0 : wr.cell? ⟨gb540, 0, none⟩ = some (.int .i64 a0_0) := (blk_cell BK540.out 0).trans rfl
           have hcz27_1 : wr.cell? ⟨gb540, 1, none⟩ = some (.slice A0_1 l0_1.length c0_1) := (blk_cell BK540.out 1).trans rfl
           have hcz27_2 : wr.cell? ⟨gb540, 2, none⟩ = some (.slice A0_2 l0_2.length c0_2) := (blk_cell BK540.out 2).trans rfl
           have hfz27_0 := blk_frozen BK540.out 0
           have hfz27_1 := blk_frozen BK540.out 1
           have hfz27_2 := blk_frozen BK540.out 2
           have p542 : 0 ≤ (x5_2 : Int) := of_decide_eq_true q4_
           have q542 : x5_2 < (l0_1.length : Int) := of_decide_eq_true q4_
           obtain ⟨ad542, A542_3, c542_3, e542, hx542_0, hx542_1, hx542_2, hx542_3, hl542_3, hi542_3⟩ := at_T52 HR0_1.out x5_2 p542 q542
           cases e542
           replace hx542_0 := (HB.out.cell (World.block_lt_of_cell? w _ hx542_0)).trans hx542_0
           replace hx542_1 := (HB.out.cell (World.block_lt_of_cell? w _ hx542_1)).trans hx542_1
           replace hx542_2 := (HB.out.cell (World.block_lt_of_cell? w _ hx542_2)).trans hx542_2
           replace hx542_3 := (HB.out.cell (World.block_lt_of_cell? w _ hx542_3)).trans hx542_3
           have HR542_3 := Aside0.mk hi542_3
           have HC542_3 := Aside0.mk hl542_3
           clear hi542_3 hl542_3
           replace p542 := eq_true p542
           replace q542 := eq_true q542
           have hcz28_0 : wr.cell? ⟨gb541, 0, none⟩ = some (.int .i64 a1_0) := (blk_cell BK541.out 0).trans rfl
           have hcz28_1 : wr.cell? ⟨gb541, 1, none⟩ = some (.slice A1_1 l1_1.length c1_1) := (blk_cell BK541.out 1).trans rfl
           have hcz28_2 : wr.cell? ⟨gb541, 2, none⟩ = some (.slice A1_2 l1_2.length c1_2) := (blk_cell BK541.out 2).trans rfl
           have hfz28_0 := blk_frozen BK541.out 0
           have hfz28_1 := blk_frozen BK541.out 1
           have hfz28_2 := blk_frozen BK541.out 2
           have p543 : 0 ≤ (x5_2 : Int) := of_decide_eq_true q4_
           have q543 : x5_2 < (l1_1.length : Int) := of_decide_eq_true q4_
           obtain ⟨ad543, A543_3, c543_3, e543, hx543_0, hx543_1, hx543_2, hx543_3, hl543_3, hi543_3⟩ := at_T52 HR1_1.out x5_2 p543 q543
           cases e543
           replace hx543_0 := (HB.out.cell (World.block_lt_of_cell? w _ hx543_0)).trans hx543_0
           replace hx543_1 := (HB.out.cell (World.block_lt_of_cell? w _ hx543_1)).trans hx543_1
           replace hx543_2 := (HB.out.cell (World.block_lt_of_cell? w _ hx543_2)).trans hx543_2
           replace hx543_3 := (HB.out.cell (World.block_lt_of_cell? w _ hx543_3)).trans hx543_3
           have HR543_3 := Aside0.mk hi543_3
           have HC543_3 := Aside0.mk hl543_3
           clear hi543_3 hl543_3
           replace p543 := eq_true p543
           replace q543 := eq_true q543
           have p544 : 0 ≤ (x5_2 : Int) := of_decide_eq_true q4_
           have q544 : x5_2 < (l0_1.length : Int) := of_decide_eq_true q4_
           obtain ⟨ad544, A544_3, c544_3, e544, hx544_0, hx544_1, hx544_2, hx544_3, hl544_3, hi544_3⟩ := at_T52 HR0_1.out x5_2 p544 q544
           obtain rfl : ad542 = ad544 := (by injection e544)
           replace hx544_0 := (HB.out.cell (World.block_lt_of_cell? w _ hx544_0)).trans hx544_0
           replace hx544_1 := (HB.out.cell (World.block_lt_of_cell? w _ hx544_1)).trans hx544_1
           replace hx544_2 := (HB.out.cell (World.block_lt_of_cell? w _ hx544_2)).trans hx544_2
           replace hx544_3 := (HB.out.cell (World.block_lt_of_cell? w _ hx544_3)).trans hx544_3
           have HR544_3 := Aside0.mk hi544_3
           have HC544_3 := Aside0.mk hl544_3
           clear hi544_3 hl544_3
           replace p544 := eq_true p544
           replace q544 := eq_true q544
           have ea_ := Option.some.inj (hx542_3.symm.trans hx544_3)
           injection ea_ with ea_ en_ ec_
           subst ea_
           subst ec_
           clear en_
           have hcv29 := fun n_ : Nat => Kd.C_string (P := Try.prog) (A := A542_3) (c := c542_3) Try.underlying29 Try.underlying5 Try.underlying9 (Kd.C_drewN (Kd.C_below HR544_3.out HB.out) n_)
           have p545 : 0 ≤ (x5_2 : Int) := of_decide_eq_true q4_
           have q545 : x5_2 < (l1_1.length : Int) := of_decide_eq_true q4_
           obtain ⟨ad545, A545_3, c545_3, e545, hx545_0, hx545_1, hx545_2, hx545_3, hl545_3, hi545_3⟩ := at_T52 HR1_1.out x5_2 p545 q545
           obtain rfl : ad543 = ad545 := (by injection e545)
           replace hx545_0 := (HB.out.cell (World.block_lt_of_cell? w _ hx545_0)).trans hx545_0
           replace hx545_1 := (HB.out.cell (World.block_lt_of_cell? w _ hx545_1)).trans hx545_1
           replace hx545_2 := (HB.out.cell (World.block_lt_of_cell? w _ hx545_2)).trans hx545_2
           replace hx545_3 := (HB.out.cell (World.block_lt_of_cell? w _ hx545_3)).trans hx545_3
           have HR545_3 := Aside0.mk hi545_3
           have HC545_3 := Aside0.mk hl545_3
           clear hi545_3 hl545_3
           replace p545 := eq_true p545
           replace q545 := eq_true q545
           have ea_ := Option.some.inj (hx543_3.symm.trans hx545_3)
           injection ea_ with ea_ en_ ec_
           subst ea_
           subst ec_
           clear en_
           have hcv30 := fun n_ : Nat => Kd.C_string (P := Try.prog) (A := A543_3) (c := c543_3) Try.underlying29 Try.underlying5 Try.underlying9 (Kd.C_drewN (Kd.C_below HR545_3.out HB.out) n_)
           go_wp2
           repeat (go_quiet (fail); try go_wp2)
           go_roundg k2
           case measure => have := HJ2.out; have := HK2.out; omega
           case rel => exact ⟨(wrap64 (x5_2 + 1)), q14_, H', ⟨by have := HJ2.out; have := HK2.out; omega⟩, ⟨q65_⟩, ⟨q136_⟩, ⟨q103_⟩⟩
          ·rw [if_neg c25] at H
           have c25b0 : ((strOfNums ((rd_T52 l0_1 x5_2).f1)).toList == (strOfNums ((rd_T52 l1_1 x5_2).f1)).toList) = false := beq_eq_false_iff_ne.mpr c25
           have c25b1 : ((strOfNums ((rd_T52 l0_1 x5_2).f1)).toList != (strOfNums ((rd_T52 l1_1 x5_2).f1)).toList) = true := bne_iff_ne.mpr c25
           obtain rfl := Option.some.inj H
           have hnb31 := NB540_541.out
           have hnc31 := NB541_540.out
           have hcz32_0 : wr.cell? ⟨gb540, 0, none⟩ = some (.int .i64 a0_0) := (blk_cell BK540.out 0).trans rfl
           have hcz32_1 : wr.cell? ⟨gb540, 1, none⟩ = some (.slice A0_1 l0_1.length c0_1) := (blk_cell BK540.out 1).trans rfl
           have hcz32_2 : wr.cell? ⟨gb540, 2, none⟩ = some (.slice A0_2 l0_2.length c0_2) := (blk_cell BK540.out 2).trans rfl
           have hfz32_0 := blk_frozen BK540.out 0
           have hfz32_1 := blk_frozen BK540.out 1
           have hfz32_2 := blk_frozen BK540.out 2
           have p542 : 0 ≤ (x5_2 : Int) := of_decide_eq_true q4_
           have q542 : x5_2 < (l0_1.length : Int) := of_decide_eq_true q4_
           obtain ⟨ad542, A542_3, c542_3, e542, hx542_0, hx542_1, hx542_2, hx542_3, hl542_3, hi542_3⟩ := at_T52 HR0_1.out x5_2 p542 q542
           cases e542
           replace hx542_0 := (HB.out.cell (World.block_lt_of_cell? w _ hx542_0)).trans hx542_0
           replace hx542_1 := (HB.out.cell (World.block_lt_of_cell? w _ hx542_1)).trans hx542_1
           replace hx542_2 := (HB.out.cell (World.block_lt_of_cell? w _ hx542_2)).trans hx542_2
           replace hx542_3 := (HB.out.cell (World.block_lt_of_cell? w _ hx542_3)).trans hx542_3
           have HR542_3 := Aside0.mk hi542_3
           have HC542_3 := Aside0.mk hl542_3
           clear hi542_3 hl542_3
           replace p542 := eq_true p542
           replace q542 := eq_true q542
           have hcz33_0 : wr.cell? ⟨gb541, 0, none⟩ = some (.int .i64 a1_0) := (blk_cell BK541.out 0).trans rfl
           have hcz33_1 : wr.cell? ⟨gb541, 1, none⟩ = some (.slice A1_1 l1_1.length c1_1) := (blk_cell BK541.out 1).trans rfl
           have hcz33_2 : wr.cell? ⟨gb541, 2, none⟩ = some (.slice A1_2 l1_2.length c1_2) := (blk_cell BK541.out 2).trans rfl
           have hfz33_0 := blk_frozen BK541.out 0
           have hfz33_1 := blk_frozen BK541.out 1
           have hfz33_2 := blk_frozen BK541.out 2
           have p543 : 0 ≤ (x5_2 : Int) := of_decide_eq_true q4_
           have q543 : x5_2 < (l1_1.length : Int) := of_decide_eq_true q4_
           obtain ⟨ad543, A543_3, c543_3, e543, hx543_0, hx543_1, hx543_2, hx543_3, hl543_3, hi543_3⟩ := at_T52 HR1_1.out x5_2 p543 q543
           cases e543
           replace hx543_0 := (HB.out.cell (World.block_lt_of_cell? w _ hx543_0)).trans hx543_0
           replace hx543_1 := (HB.out.cell (World.block_lt_of_cell? w _ hx543_1)).trans hx543_1
           replace hx543_2 := (HB.out.cell (World.block_lt_of_cell? w _ hx543_2)).trans hx543_2
           replace hx543_3 := (HB.out.cell (World.block_lt_of_cell? w _ hx543_3)).trans hx543_3
           have HR543_3 := Aside0.mk hi543_3
           have HC543_3 := Aside0.mk hl543_3
           clear hi543_3 hl543_3
           replace p543 := eq_true p543
           replace q543 := eq_true q543
           have p544 : 0 ≤ (x5_2 : Int) := of_decide_eq_true q4_
           have q544 : x5_2 < (l0_1.length : Int) := of_decide_eq_true q4_
           obtain ⟨ad544, A544_3, c544_3, e544, hx544_0, hx544_1, hx544_2, hx544_3, hl544_3, hi544_3⟩ := at_T52 HR0_1.out x5_2 p544 q544
           obtain rfl : ad542 = ad544 := (by injection e544)
           replace hx544_0 := (HB.out.cell (World.block_lt_of_cell? w _ hx544_0)).trans hx544_0
           replace hx544_1 := (HB.out.cell (World.block_lt_of_cell? w _ hx544_1)).trans hx544_1
           replace hx544_2 := (HB.out.cell (World.block_lt_of_cell? w _ hx544_2)).trans hx544_2
           replace hx544_3 := (HB.out.cell (World.block_lt_of_cell? w _ hx544_3)).trans hx544_3
           have HR544_3 := Aside0.mk hi544_3
           have HC544_3 := Aside0.mk hl544_3
           clear hi544_3 hl544_3
           replace p544 := eq_true p544
           replace q544 := eq_true q544
           have ea_ := Option.some.inj (hx542_3.symm.trans hx544_3)
           injection ea_ with ea_ en_ ec_
           subst ea_
           subst ec_
           clear en_
           have hcv34 := fun n_ : Nat => Kd.C_string (P := Try.prog) (A := A542_3) (c := c542_3) Try.underlying29 Try.underlying5 Try.underlying9 (Kd.C_drewN (Kd.C_below HR544_3.out HB.out) n_)
           have p545 : 0 ≤ (x5_2 : Int) := of_decide_eq_true q4_
           have q545 : x5_2 < (l1_1.length : Int) := of_decide_eq_true q4_
           obtain ⟨ad545, A545_3, c545_3, e545, hx545_0, hx545_1, hx545_2, hx545_3, hl545_3, hi545_3⟩ := at_T52 HR1_1.out x5_2 p545 q545
           obtain rfl : ad543 = ad545 := (by injection e545)
           replace hx545_0 := (HB.out.cell (World.block_lt_of_cell? w _ hx545_0)).trans hx545_0
           replace hx545_1 := (HB.out.cell (World.block_lt_of_cell? w _ hx545_1)).trans hx545_1
           replace hx545_2 := (HB.out.cell (World.block_lt_of_cell? w _ hx545_2)).trans hx545_2
           replace hx545_3 := (HB.out.cell (World.block_lt_of_cell? w _ hx545_3)).trans hx545_3
           have HR545_3 := Aside0.mk hi545_3
           have HC545_3 := Aside0.mk hl545_3
           clear hi545_3 hl545_3
           replace p545 := eq_true p545
           replace q545 := eq_true q545
           have ea_ := Option.some.inj (hx543_3.symm.trans hx545_3)
           injection ea_ with ea_ en_ ec_
           subst ea_
           subst ec_
           clear en_
           have hcv35 := fun n_ : Nat => Kd.C_string (P := Try.prog) (A := A543_3) (c := c543_3) Try.underlying29 Try.underlying5 Try.underlying9 (Kd.C_drewN (Kd.C_below HR545_3.out HB.out) n_)
           go_wp2
           repeat (go_quiet (fail); try go_wp2)
           go_ret
           exact ⟨q6_, by repeat (first | (with_reducible first | exact HB.out | apply below_alloc | apply pw_below_drewN | apply below_drew1 | refine below_set ?_ GE540.out | refine below_set ?_ GE541.out) | exact HB.out)⟩
        ·rw [if_neg c20] at H
         exact absurd H (by simp)
       ·rw [if_neg c19] at H
        exact absurd H (by simp)
      ·rw [if_neg c18] at H
       have c18b0 : decide (x5_2 < (l0_1.length : Int)) = false := decide_eq_false c18
       clear c18
       have H' := Aside0.mk H
       clear H
       have hnb36 := NB540_541.out
       have hnc36 := NB541_540.out
       have hcz37_0 : wr.cell? ⟨gb540, 0, none⟩ = some (.int .i64 a0_0) := (blk_cell BK540.out 0).trans rfl
       have hcz37_1 : wr.cell? ⟨gb540, 1, none⟩ = some (.slice A0_1 l0_1.length c0_1) := (blk_cell BK540.out 1).trans rfl
       have hcz37_2 : wr.cell? ⟨gb540, 2, none⟩ = some (.slice A0_2 l0_2.length c0_2) := (blk_cell BK540.out 2).trans rfl
       have hfz37_0 := blk_frozen BK540.out 0
       have hfz37_1 := blk_frozen BK540.out 1
       have hfz37_2 := blk_frozen BK540.out 2
       go_wp2
       repeat (go_quiet (fail); try go_wp2)
       go_loopg [6] k2 (fun kq v6 w' => ∃ (x6_3 : Int), v6 = .int .i64 x6_3 ∧ Aside0 (cambiumref06_Same.l1 kq x6_3 a0_0 l0_1 l0_2 a1_0 l1_1 l1_2 = some r) ∧ Aside0 (kq ≤ k2) ∧ Aside0 (w'.heap[gb540]? = some (.cells #[.int .i64 a0_0, (.slice A0_1 l0_1.length c0_1), (.slice A0_2 l0_2.length c0_2)] 25 (0, 0))) ∧ Aside0 (w'.heap[gb541]? = some (.cells #[.int .i64 a1_0, (.slice A1_1 l1_1.length c1_1), (.slice A1_2 l1_2.length c1_2)] 25 (0, 0))) ∧ Aside0 (Below w.heap.size w w'))
       case atStart => exact ⟨(0), q14_, H', ⟨Nat.le_refl _⟩, ⟨q65_⟩, ⟨q136_⟩, ⟨q103_⟩⟩
       case round =>
        clear H'
        try clear c1
        try clear c2
        try clear p2
        try clear hcv2
        try clear c3
        try clear hcv3
        try clear c5
        try clear p5
        try clear q5
        try clear hx5
        try clear c6
        try clear c6b0
        try clear c6b1
        try clear p6
        try clear c7
        try clear c7b0
        try clear c7b1
        try clear c7b2
        try clear c8
        try clear c11
        try clear c14
        try clear c17
        try clear c18
        try clear c18b0
        try clear c19
        try clear c19b0
        try clear c20
        try clear c20b0
        try clear c21
        try clear c21b0
        try clear c22
        try clear c25
        try clear c25b0
        try clear c25b1
        try clear c26
        try clear hcv29
        try clear hcv30
        try clear c31
        try clear hcv34
        try clear hcv35
        try clear c36
        try clear hcz10_0
        try clear hcz10_1
        try clear hcz10_2
        try clear hcz12_0
        try clear hcz12_1
        try clear hcz12_2
        try clear hcz13_0
        try clear hcz13_1
        try clear hcz13_2
        try clear hcz15_0
        try clear hcz15_1
        try clear hcz15_2
        try clear hcz16_0
        try clear hcz16_1
        try clear hcz16_2
        try clear hcz23_0
        try clear hcz23_1
        try clear hcz23_2
        try clear hcz24_0
        try clear hcz24_1
        try clear hcz24_2
        try clear hcz27_0
        try clear hcz27_1
        try clear hcz27_2
        try clear hcz28_0
        try clear hcz28_1
        try clear hcz28_2
        try clear hcz32_0
        try clear hcz32_1
        try clear hcz32_2
        try clear hcz33_0
        try clear hcz33_1
        try clear hcz33_2
        try clear hcz37_0
        try clear hcz37_1
        try clear hcz37_2
        try clear hcz9_0
        try clear hcz9_1
        try clear hcz9_2
        try clear hfz10_0
        try clear hfz10_1
        try clear hfz10_2
        try clear hfz12_0
        try clear hfz12_1
        try clear hfz12_2
        try clear hfz13_0
        try clear hfz13_1
        try clear hfz13_2
        try clear hfz15_0
        try clear hfz15_1
        try clear hfz15_2
        try clear hfz16_0
        try clear hfz16_1
        try clear hfz16_2
        try clear hfz23_0
        try clear hfz23_1
        try clear hfz23_2
        try clear hfz24_0
        try clear hfz24_1
        try clear hfz24_2
        try clear hfz27_0
        try clear hfz27_1
        try clear hfz27_2
        try clear hfz28_0
        try clear hfz28_1
        try clear hfz28_2
        try clear hfz32_0
        try clear hfz32_1
        try clear hfz32_2
        try clear hfz33_0
        try clear hfz33_1
        try clear hfz33_2
        try clear hfz37_0
        try clear hfz37_1
        try clear hfz37_2
        try clear hfz9_0
        try clear hfz9_1
        try clear hfz9_2
        try clear hx542_0
        try clear hx542_1
        try clear hx542_2
        try clear hx542_3
        try clear hx543_0
        try clear hx543_1
        try clear hx543_2
        try clear hx543_3
        try clear hx544_0
        try clear hx544_1
        try clear hx544_2
        try clear hx544_3
        try clear hx545_0
        try clear hx545_1
        try clear hx545_2
        try clear hx545_3
        try clear p2
        try clear p542
        try clear p543
        try clear p544
        try clear p545
        try clear q542
        try clear q543
        try clear q544
        try clear q545
        obtain ⟨x6_3, rfl, HA, HK3, BK540, BK541, HB⟩ := hrel
        cases gk with
        | zero => exact absurd (show none = some _ from HA.out) (by simp)
        | succ k3 =>
         have H := HA.out
         clear HA
         simp only [cambiumref06_Same.l1] at H
         by_cases c38 : x6_3 < (l0_2.length : Int)
         ·rw [if_pos c38] at H
          have c38b0 : decide (x6_3 < (l0_2.length : Int)) = true := decide_eq_true c38
          clear c38
          by_cases c39 : 0 ≤ x6_3
          ·rw [if_pos c39] at H
           have c39b0 : decide (0 ≤ x6_3) = true := decide_eq_true c39
           clear c39
           by_cases c40 : x6_3 < (l1_2.length : Int)
           ·rw [if_pos c40] at H
            have c40b0 : decide (x6_3 < (l1_2.length : Int)) = true := decide_eq_true c40
            clear c40
            by_cases c41 : ((!(((rd_T57 l0_2 x6_3).f0.f0) == ((rd_T57 l1_2 x6_3).f0.f0)) || (!(((rd_T57 l0_2 x6_3).f0.f1) == ((rd_T57 l1_2 x6_3).f0.f1)) || (!(((rd_T57 l0_2 x6_3).f0.f2) == ((rd_T57 l1_2 x6_3).f0.f2))))) || (!(((rd_T57 l0_2 x6_3).f1) == ((rd_T57 l1_2 x6_3).f1)))) = true
            ·rw [if_pos c41] at H
             have c41b0 : ((!(((rd_T57 l0_2 x6_3).f0.f0) == ((rd_T57 l1_2 x6_3).f0.f0)) || (!(((rd_T57 l0_2 x6_3).f0.f1) == ((rd_T57 l1_2 x6_3).f0.f1)) || (!(((rd_T57 l0_2 x6_3).f0.f2) == ((rd_T57 l1_2 x6_3).f0.f2))))) || (!(((rd_T57 l0_2 x6_3).f1) == ((rd_T57 l1_2 x6_3).f1)))) = true := c41
             clear c41
             obtain rfl := Option.some.inj H
             have hnb42 := NB540_541.out
             have hnc42 := NB541_540.out
             have hcz43_0 : wr.cell? ⟨gb540, 0, none⟩ = some (.int .i64 a0_0) := (blk_cell BK540.out 0).trans rfl
             have hcz43_1 : wr.cell? ⟨gb540, 1, none⟩ = some (.slice A0_1 l0_1.length c0_1) := (blk_cell BK540.out 1).trans rfl
             have hcz43_2 : wr.cell? ⟨gb540, 2, none⟩ = some (.slice A0_2 l0_2.length c0_2) := (blk_cell BK540.out 2).trans rfl
             have hfz43_0 := blk_frozen BK540.out 0
             have hfz43_1 := blk_frozen BK540.out 1
             have hfz43_2 := blk_frozen BK540.out 2
             have p546 : 0 ≤ (x6_3 : Int) := of_decide_eq_true q4_
             have q546 : x6_3 < (l0_2.length : Int) := of_decide_eq_true q4_
             obtain ⟨ad546, e546, hx546_0, hx546_1, hx546_2, hx546_3⟩ := at_T57 HR0_2.out x6_3 p546 q546
             cases e546
             replace hx546_0 := (HB.out.cell (World.block_lt_of_cell? w _ hx546_0)).trans hx546_0
             replace hx546_1 := (HB.out.cell (World.block_lt_of_cell? w _ hx546_1)).trans hx546_1
             replace hx546_2 := (HB.out.cell (World.block_lt_of_cell? w _ hx546_2)).trans hx546_2
             replace hx546_3 := (HB.out.cell (World.block_lt_of_cell? w _ hx546_3)).trans hx546_3
             replace p546 := eq_true p546
             replace q546 := eq_true q546
             have hcz44_0 : wr.cell? ⟨gb541, 0, none⟩ = some (.int .i64 a1_0) := (blk_cell BK541.out 0).trans rfl
             have hcz44_1 : wr.cell? ⟨gb541, 1, none⟩ = some (.slice A1_1 l1_1.length c1_1) := (blk_cell BK541.out 1).trans rfl
             have hcz44_2 : wr.cell? ⟨gb541, 2, none⟩ = some (.slice A1_2 l1_2.length c1_2) := (blk_cell BK541.out 2).trans rfl
             have hfz44_0 := blk_frozen BK541.out 0
             have hfz44_1 := blk_frozen BK541.out 1
             have hfz44_2 := blk_frozen BK541.out 2
             have p547 : 0 ≤ (x6_3 : Int) := of_decide_eq_true q4_
             have q547 : x6_3 < (l1_2.length : Int) := of_decide_eq_true q4_
             obtain ⟨ad547, e547, hx547_0, hx547_1, hx547_2, hx547_3⟩ := at_T57 HR1_2.out x6_3 p547 q547
             cases e547
             replace hx547_0 := (HB.out.cell (World.block_lt_of_cell? w _ hx547_0)).trans hx547_0
             replace hx547_1 := (HB.out.cell (World.block_lt_of_cell? w _ hx547_1)).trans hx547_1
             replace hx547_2 := (HB.out.cell (World.block_lt_of_cell? w _ hx547_2)).trans hx547_2
             replace hx547_3 := (HB.out.cell (World.block_lt_of_cell? w _ hx547_3)).trans hx547_3
             replace p547 := eq_true p547
             replace q547 := eq_true q547
             go_wp2
             repeat (go_quiet (fail); try go_wp2)
             go_ret
             exact ⟨q6_, by repeat (first | (with_reducible first | exact HB.out | apply below_alloc | apply pw_below_drewN | apply below_drew1 | refine below_set ?_ GE540.out | refine below_set ?_ GE541.out) | exact HB.out)⟩
            ·rw [if_neg c41] at H
             have c41b0 : ((!(((rd_T57 l0_2 x6_3).f0.f0) == ((rd_T57 l1_2 x6_3).f0.f0)) || (!(((rd_T57 l0_2 x6_3).f0.f1) == ((rd_T57 l1_2 x6_3).f0.f1)) || (!(((rd_T57 l0_2 x6_3).f0.f2) == ((rd_T57 l1_2 x6_3).f0.f2))))) || (!(((rd_T57 l0_2 x6_3).f1) == ((rd_T57 l1_2 x6_3).f1)))) = false := by simpa using c41
             clear c41
             have H' := Aside0.mk H
             clear H
             have hnb45 := NB540_541.out
             have hnc45 := NB541_540.out
             have hcz46_0 : wr.cell? ⟨gb540, 0, none⟩ = some (.int .i64 a0_0) := (blk_cell BK540.out 0).trans rfl
             have hcz46_1 : wr.cell? ⟨gb540, 1, none⟩ = some (.slice A0_1 l0_1.length c0_1) := (blk_cell BK540.out 1).trans rfl
             have hcz46_2 : wr.cell? ⟨gb540, 2, none⟩ = some (.slice A0_2 l0_2.length c0_2) := (blk_cell BK540.out 2).trans rfl
             have hfz46_0 := blk_frozen BK540.out 0
             have hfz46_1 := blk_frozen BK540.out 1
             have hfz46_2 := blk_frozen BK540.out 2
             have p546 : 0 ≤ (x6_3 : Int) := of_decide_eq_true q4_
             have q546 : x6_3 < (l0_2.length : Int) := of_decide_eq_true q4_
             obtain ⟨ad546, e546, hx546_0, hx546_1, hx546_2, hx546_3⟩ := at_T57 HR0_2.out x6_3 p546 q546
             cases e546
             replace hx546_0 := (HB.out.cell (World.block_lt_of_cell? w _ hx546_0)).trans hx546_0
             replace hx546_1 := (HB.out.cell (World.block_lt_of_cell? w _ hx546_1)).trans hx546_1
             replace hx546_2 := (HB.out.cell (World.block_lt_of_cell? w _ hx546_2)).trans hx546_2
             replace hx546_3 := (HB.out.cell (World.block_lt_of_cell? w _ hx546_3)).trans hx546_3
             replace p546 := eq_true p546
             replace q546 := eq_true q546
             have hcz47_0 : wr.cell? ⟨gb541, 0, none⟩ = some (.int .i64 a1_0) := (blk_cell BK541.out 0).trans rfl
             have hcz47_1 : wr.cell? ⟨gb541, 1, none⟩ = some (.slice A1_1 l1_1.length c1_1) := (blk_cell BK541.out 1).trans rfl
             have hcz47_2 : wr.cell? ⟨gb541, 2, none⟩ = some (.slice A1_2 l1_2.length c1_2) := (blk_cell BK541.out 2).trans rfl
             have hfz47_0 := blk_frozen BK541.out 0
             have hfz47_1 := blk_frozen BK541.out 1
             have hfz47_2 := blk_frozen BK541.out 2
             have p547 : 0 ≤ (x6_3 : Int) := of_decide_eq_true q4_
             have q547 : x6_3 < (l1_2.length : Int) := of_decide_eq_true q4_
             obtain ⟨ad547, e547, hx547_0, hx547_1, hx547_2, hx547_3⟩ := at_T57 HR1_2.out x6_3 p547 q547
             cases e547
             replace hx547_0 := (HB.out.cell (World.block_lt_of_cell? w _ hx547_0)).trans hx547_0
             replace hx547_1 := (HB.out.cell (World.block_lt_of_cell? w _ hx547_1)).trans hx547_1
             replace hx547_2 := (HB.out.cell (World.block_lt_of_cell? w _ hx547_2)).trans hx547_2
             replace hx547_3 := (HB.out.cell (World.block_lt_of_cell? w _ hx547_3)).trans hx547_3
             replace p547 := eq_true p547
             replace q547 := eq_true q547
             go_wp2
             repeat (go_quiet (fail); try go_wp2)
             go_roundg k3
             case measure => have := HJ2.out; have := HK2.out; have := HK3.out; omega
             case rel => exact ⟨(wrap64 (x6_3 + 1)), q14_, H', ⟨by have := HJ2.out; have := HK2.out; have := HK3.out; omega⟩, ⟨q65_⟩, ⟨q136_⟩, ⟨q103_⟩⟩
           ·rw [if_neg c40] at H
            exact absurd H (by simp)
          ·rw [if_neg c39] at H
           exact absurd H (by simp)
         ·rw [if_neg c38] at H
          have c38b0 : decide (x6_3 < (l0_2.length : Int)) = false := decide_eq_false c38
          clear c38
          obtain rfl := Option.some.inj H
          have hnb48 := NB540_541.out
          have hnc48 := NB541_540.out
          have hcz49_0 : wr.cell? ⟨gb540, 0, none⟩ = some (.int .i64 a0_0) := (blk_cell BK540.out 0).trans rfl
          have hcz49_1 : wr.cell? ⟨gb540, 1, none⟩ = some (.slice A0_1 l0_1.length c0_1) := (blk_cell BK540.out 1).trans rfl
          have hcz49_2 : wr.cell? ⟨gb540, 2, none⟩ = some (.slice A0_2 l0_2.length c0_2) := (blk_cell BK540.out 2).trans rfl
          have hfz49_0 := blk_frozen BK540.out 0
          have hfz49_1 := blk_frozen BK540.out 1
          have hfz49_2 := blk_frozen BK540.out 2
          go_wp2
          repeat (go_quiet (fail); try go_wp2)
          go_ret
          exact ⟨q6_, by repeat (first | (with_reducible first | exact HB.out | apply below_alloc | apply pw_below_drewN | apply below_drew1 | refine below_set ?_ GE540.out | refine below_set ?_ GE541.out) | exact HB.out)⟩

end Go.Proofs.Ytcjnknpbikfimaa.P
