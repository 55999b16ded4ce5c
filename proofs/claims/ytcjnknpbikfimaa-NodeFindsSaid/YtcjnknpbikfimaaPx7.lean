/- Functions and contracts, written by a program (mkprint.py, a wrapper of ours around the print); texts between GIVEN marks are ours. -/
import Derived.Test.YtcjnknpbikfimaaPx0
import Derived.Test.YtcjnknpbikfimaaPx3
import Derived.Test.YtcjnknpbikfimaaPx5
import Derived.Test.YtcjnknpbikfimaaPx6
namespace Go.Proofs.Ytcjnknpbikfimaa.P
open Go.RowKit Go.Proofs.YtcjnknpbikfimaaW.PrintWords Go.Proofs.YtcjnknpbikfimaaW.PrintLast Go.Proofs.YtcjnknpbikfimaaW.PrintMore
attribute [local go_sem] max2_int min2_int max_two min_two max_three min_three max_four min_four   -- for this text's walks alone
set_option linter.unusedVariables false
set_option linter.unusedSimpArgs false
theorem q33_ {P : Prop} (h : P := by repeat (first | (with_reducible first | exact HB.out | apply below_alloc | apply pw_below_drewN | apply below_drew1 | refine below_set ?_ GE123.out) | exact HB.out)) : P := h
theorem q66_ {P : Prop} (h : P := by (with_reducible repeat (first | refine blk_drewN ?_ _ | refine blk_drew ?_ | refine blk_alloc ?_ _)); exact BK123.out) : P := h

/-! ### node_May: function 11 -/
mutual
def node_May.l0 : Nat → List (S52) → Int → Int → Int → List (S52) → List (S57) → Option (Bool)
 | 0, _, _, _, _, _, _ => none
 | k + 1, x11, x12, x13, x124000, x124001, x124002 => if x13 < x12 then (if 0 ≤ x13 then (if x13 < (x11.length : Int) then (if (((rd_T52 x11 x13).f1).length : Int) > 28 then (some false) else (node_May.l0 k x11 x12 (wrap64 (x13 + 1)) x124000 x124001 x124002)) else (none)) else (none)) else (if (x124002.length : Int) = 0 then ((node_within.f (x124001.length : Int) 1 6).bind fun t126 => (if t126 = true then ((api_Item_27.f x124001).bind fun t127 => (some t127)) else (some false))) else (some false))
def node_May.l1 : Nat → List (S57) → Int → Int → Int → List (S52) → List (S57) → Option (Bool)
 | 0, _, _, _, _, _, _ => none
 | k + 1, x38, x39, x40, x124000, x124001, x124002 => if x40 < x39 then (if 0 ≤ x40 then (if x40 < (x38.length : Int) then ((node_within.f ((rd_T57 x38 x40).f1) 1 2047).bind fun t130 => (if t130 = true then (node_May.l1 k x38 x39 (wrap64 (x40 + 1)) x124000 x124001 x124002) else (some false))) else (none)) else (none)) else ((node_within.f x124000 1 7).bind fun t131 => (if t131 = true then (if (x124001.length : Int) = 0 then ((node_within.f (x124002.length : Int) 2 12).bind fun t132 => (if t132 = true then ((api_Kid_29.f x124002).bind fun t133 => (some t133)) else (some false))) else (some false)) else (some false)))
end
def node_May.f (k : Nat) (a0_0 : Int) (l0_1 : List (S52)) (l0_2 : List (S57)) : Option (Bool) := if a0_0 = 0 then (node_May.l0 k l0_1 (l0_1.length : Int) 0 a0_0 l0_1 l0_2) else (node_May.l1 k l0_2 (l0_2.length : Int) 0 a0_0 l0_1 l0_2)
theorem node_May.mono_l : ∀ k, (∀ y0 y1 y2 y3 y4 y5, LeO (node_May.l0 k y0 y1 y2 y3 y4 y5) (node_May.l0 (k + 1) y0 y1 y2 y3 y4 y5)) ∧ (∀ y0 y1 y2 y3 y4 y5, LeO (node_May.l1 k y0 y1 y2 y3 y4 y5) (node_May.l1 (k + 1) y0 y1 y2 y3 y4 y5))
 | 0 => ⟨fun _ _ _ _ _ _ r h => by simp [node_May.l0] at h, fun _ _ _ _ _ _ r h => by simp [node_May.l1] at h⟩
 | k + 1 => by
  obtain ⟨ih0, ih1⟩ := node_May.mono_l k
  refine ⟨?_, ?_⟩
  ·intro y0 y1 y2 y3 y4 y5
   unfold node_May.l0
   repeat' first
   | (with_reducible exact ih0 _ _ _ _ _ _)
   | (with_reducible exact ih1 _ _ _ _ _ _)
   | (with_reducible exact LeO.refl _)
   | (with_reducible exact LeO.none _)
   | (with_reducible refine LeO.ite ?_ ?_)
   | (with_reducible refine LeO.bind ?_ (fun _ => ?_))
   | exact ih0 _ _ _ _ _ _
   | exact ih1 _ _ _ _ _ _
   | exact LeO.none _
   | refine LeO.ite ?_ ?_
   | refine LeO.bind ?_ (fun _ => ?_)
  ·intro y0 y1 y2 y3 y4 y5
   unfold node_May.l1
   repeat' first
   | (with_reducible exact ih0 _ _ _ _ _ _)
   | (with_reducible exact ih1 _ _ _ _ _ _)
   | (with_reducible exact LeO.refl _)
   | (with_reducible exact LeO.none _)
   | (with_reducible refine LeO.ite ?_ ?_)
   | (with_reducible refine LeO.bind ?_ (fun _ => ?_))
   | exact ih0 _ _ _ _ _ _
   | exact ih1 _ _ _ _ _ _
   | exact LeO.none _
   | refine LeO.ite ?_ ?_
   | refine LeO.bind ?_ (fun _ => ?_)
theorem node_May.mono : ∀ a0 a1 a2 k, LeO (node_May.f k a0 a1 a2) (node_May.f (k + 1) a0 a1 a2) := by
 intro a0 a1 a2 k
 obtain ⟨ih0, ih1⟩ := node_May.mono_l k
 unfold node_May.f
 repeat' first
   | (with_reducible exact ih0 _ _ _ _ _ _)
   | (with_reducible exact ih1 _ _ _ _ _ _)
   | (with_reducible exact LeO.refl _)
   | (with_reducible exact LeO.none _)
   | (with_reducible refine LeO.ite ?_ ?_)
   | (with_reducible refine LeO.bind ?_ (fun _ => ?_))
   | exact ih0 _ _ _ _ _ _
   | exact ih1 _ _ _ _ _ _
   | exact LeO.none _
   | refine LeO.ite ?_ ?_
   | refine LeO.bind ?_ (fun _ => ?_)
set_option maxHeartbeats 8000000 in
set_option maxRecDepth 100000 in
theorem node_May.calls (k : Nat) (a0_0 : Int) (A0_1 : Option Addr) (c0_1 : Nat) (l0_1 : List (S52)) (A0_2 : Option Addr) (c0_2 : Nat) (l0_2 : List (S57)) (r : Bool) (w : World) (hr0_1 : Kd.C k52 w A0_1 l0_1.length l0_1) (hc0_1 : l0_1.length ≤ c0_1) (hr0_2 : Kd.C k57 w A0_2 l0_2.length l0_2) (hc0_2 : l0_2.length ≤ c0_2) (h : node_May.f k a0_0 l0_1 l0_2 = some r) :
  Calls Try.prog 11 #[.agg #[.int .i64 a0_0, .slice A0_1 l0_1.length c0_1, .slice A0_2 l0_2.length c0_2]] w fun e w' => e = .returned (.bool r) ∧ Below w.heap.size w w' := by
 have hu25 := Try.underlying25
 have hu52 := Try.underlying52
 have hu57 := Try.underlying57
 have HR0_1 := Aside0.mk hr0_1
 have HC0_1 := Aside0.mk hc0_1
 clear hr0_1 hc0_1
 have HR0_2 := Aside0.mk hr0_2
 have HC0_2 := Aside0.mk hc0_2
 clear hr0_2 hc0_2
 have HB := Aside0.mk (Below.refl w.heap.size w)
 have H : (if a0_0 = 0 then (node_May.l0 k l0_1 (l0_1.length : Int) 0 a0_0 l0_1 l0_2) else (node_May.l1 k l0_2 (l0_2.length : Int) 0 a0_0 l0_1 l0_2)) = some r := h
 clear h
 by_cases c2 : a0_0 = 0
 ·rw [if_pos c2] at H
  have c2b0 : (a0_0 == 0) = true := beq_iff_eq.mpr c2
  have c2b1 : (a0_0 != 0) = false := bne_eq_false_iff_eq.mpr c2
  clear c2
  have H' := Aside0.mk H
  clear H
  go_enter Try.func11, Try.ntmps11
  go_wp2_with (first | ((with_reducible refine gate_dst (N := 1) rfl ?_); (try (refine gate_guard (by rfl) ?_; dsimp only)); refine box_event ?hg (N := 1) ?hd (cs := #[.int .i64 a0_0, .slice A0_1 l0_1.length c0_1, .slice A0_2 l0_2.length c0_2]) (t := 25) ?hr ?_; (case hd => rfl); (case hg => rfl); (case hr => first | (go_simp; done) | (go_simp; rfl)); intro gb123 hg w3 hbox hb; have n0_ := Aside0.mk (below_step q0_ hb); have n1_ := Aside0.mk (hbox); have n2_ := Aside0.mk ((by rw [hg]; exact (below_size q0_) : w.heap.size ≤ gb123)); have n3_ := Aside0.mk ((by rw [hg]; exact (below_size q0_) : w.heap.size ≤ gb123)); clear HB; have HB := n0_; have BK123 := n1_; have GW123 := n2_; have GE123 := n3_; clear n0_ n1_ n2_ n3_; clear hb hbox hg; have hcz4_0 : w3.cell? ⟨gb123, 0, none⟩ = some (.int .i64 a0_0) := (blk_cell BK123.out 0).trans rfl; have hcz4_1 : w3.cell? ⟨gb123, 1, none⟩ = some (.slice A0_1 l0_1.length c0_1) := (blk_cell BK123.out 1).trans rfl; have hcz4_2 : w3.cell? ⟨gb123, 2, none⟩ = some (.slice A0_2 l0_2.length c0_2) := (blk_cell BK123.out 2).trans rfl; have hfz4_0 := blk_frozen BK123.out 0; have hfz4_1 := blk_frozen BK123.out 1; have hfz4_2 := blk_frozen BK123.out 2))
  go_loopg [13] k (fun kq v13 w' => ∃ (x13_1 : Int), v13 = .int .i64 x13_1 ∧ Aside0 (node_May.l0 kq l0_1 (l0_1.length : Int) x13_1 a0_0 l0_1 l0_2 = some r) ∧ Aside0 (kq ≤ k) ∧ Aside0 (w'.heap[gb123]? = some (.cells #[.int .i64 a0_0, (.slice A0_1 l0_1.length c0_1), (.slice A0_2 l0_2.length c0_2)] 25 (0, 0))) ∧ Aside0 (Below w.heap.size w w'))
  case atStart => exact ⟨(0), q14_, H', ⟨Nat.le_refl _⟩, ⟨q66_⟩, ⟨q33_⟩⟩
  case round =>
   clear H'
   try clear c1
   try clear c2
   try clear c2b0
   try clear c2b1
   try clear p2
   try clear hcz4_0
   try clear hcz4_1
   try clear hcz4_2
   try clear hfz4_0
   try clear hfz4_1
   try clear hfz4_2
   obtain ⟨x13_1, rfl, HA, HK1, BK123, HB⟩ := hrel
   cases gk with
   | zero => exact absurd (show none = some _ from HA.out) (by simp)
   | succ k1 =>
    have H := HA.out
    clear HA
    simp only [node_May.l0] at H
    by_cases c5 : x13_1 < (l0_1.length : Int)
    ·rw [if_pos c5] at H
     have c5b0 : decide (x13_1 < (l0_1.length : Int)) = true := decide_eq_true c5
     clear c5
     by_cases c6 : 0 ≤ x13_1
     ·rw [if_pos c6] at H
      have c6b0 : decide (0 ≤ x13_1) = true := decide_eq_true c6
      clear c6
      by_cases c7 : x13_1 < (l0_1.length : Int)
      ·rw [if_pos c7] at H
       have c7b0 : decide (x13_1 < (l0_1.length : Int)) = true := decide_eq_true c7
       clear c7
       by_cases c8 : (((rd_T52 l0_1 x13_1).f1).length : Int) > 28
       ·rw [if_pos c8] at H
        have c8b0 : decide (28 < (((rd_T52 l0_1 x13_1).f1).length : Int)) = true := decide_eq_true c8
        have c8b1 : decide (28 < ((rd_T52 l0_1 x13_1).f1).length) = true := decide_eq_true (by omega)
        clear c8
        obtain rfl := Option.some.inj H
        have p124 : 0 ≤ (x13_1 : Int) := of_decide_eq_true q4_
        have q124 : x13_1 < (l0_1.length : Int) := of_decide_eq_true q4_
        obtain ⟨ad124, A124_3, c124_3, e124, hx124_0, hx124_1, hx124_2, hx124_3, hl124_3, hi124_3⟩ := at_T52 HR0_1.out x13_1 p124 q124
        cases e124
        replace hx124_0 := (HB.out.cell (World.block_lt_of_cell? w _ hx124_0)).trans hx124_0
        replace hx124_1 := (HB.out.cell (World.block_lt_of_cell? w _ hx124_1)).trans hx124_1
        replace hx124_2 := (HB.out.cell (World.block_lt_of_cell? w _ hx124_2)).trans hx124_2
        replace hx124_3 := (HB.out.cell (World.block_lt_of_cell? w _ hx124_3)).trans hx124_3
        have HR124_3 := Aside0.mk hi124_3
        have HC124_3 := Aside0.mk hl124_3
        clear hi124_3 hl124_3
        replace p124 := eq_true p124
        replace q124 := eq_true q124
        go_wp2_with (first | ((with_reducible refine gate_dst (N := 4) rfl ?_); (try (refine gate_guard (by rfl) ?_; dsimp only)); refine box_event ?hg (N := 4) ?hd (cs := #[.int .i64 0, .int .i64 0, .int .i64 0, .slice none 0 0]) (t := 52) ?hr ?_; (case hd => rfl); (case hg => rfl); (case hr => first | (go_simp; done) | (go_simp; rfl)); intro gb125 hg w9 hbox hb; have n0_ := Aside0.mk (blk_below (g := gb123) (o := .cells #[.int .i64 a0_0, .slice (some ad124) l0_1.length c0_1, .slice A0_2 l0_2.length c0_2] 25 (0, 0)) q66_ hb); have n1_ := Aside0.mk (below_step q33_ hb); have n2_ := Aside0.mk (hbox); have n3_ := Aside0.mk ((by rw [hg]; exact (below_size q33_) : w.heap.size ≤ gb125)); have n4_ := Aside0.mk ((by rw [hg]; exact (below_size q33_) : w.heap.size ≤ gb125)); have n5_ := Aside0.mk ((by rw [hg]; exact Nat.ne_of_lt (blk_lt (g := gb123) (o := .cells #[.int .i64 a0_0, .slice (some ad124) l0_1.length c0_1, .slice A0_2 l0_2.length c0_2] 25 (0, 0)) q66_) : gb123 ≠ gb125)); have n6_ := Aside0.mk ((by rw [hg]; exact Nat.ne_of_gt (blk_lt (g := gb123) (o := .cells #[.int .i64 a0_0, .slice (some ad124) l0_1.length c0_1, .slice A0_2 l0_2.length c0_2] 25 (0, 0)) q66_) : gb125 ≠ gb123)); clear BK123; clear HB; have BK123 := n0_; have HB := n1_; have BK125 := n2_; have GW125 := n3_; have GE125 := n4_; have NB123_125 := n5_; have NB125_123 := n6_; clear n0_ n1_ n2_ n3_ n4_ n5_ n6_; clear hb hbox hg; have hnb10 := NB125_123.out; have hnc10 := NB123_125.out; have hcz11_0 : w9.cell? ⟨gb125, 0, none⟩ = some (.int .i64 0) := (blk_cell BK125.out 0).trans rfl; have hcz11_1 : w9.cell? ⟨gb125, 1, none⟩ = some (.int .i64 0) := (blk_cell BK125.out 1).trans rfl; have hcz11_2 : w9.cell? ⟨gb125, 2, none⟩ = some (.int .i64 0) := (blk_cell BK125.out 2).trans rfl; have hcz11_3 : w9.cell? ⟨gb125, 3, none⟩ = some (.slice none 0 0) := (blk_cell BK125.out 3).trans rfl; have hfz11_0 := blk_frozen BK125.out 0; have hfz11_1 := blk_frozen BK125.out 1; have hfz11_2 := blk_frozen BK125.out 2; have hfz11_3 := blk_frozen BK125.out 3))
        go_ret
        exact ⟨q6_, by repeat (first | (with_reducible first | exact HB.out | apply below_alloc | apply pw_below_drewN | apply below_drew1 | refine below_set ?_ GE123.out | refine below_set ?_ GE125.out) | exact HB.out)⟩
       ·rw [if_neg c8] at H
        have c8b0 : decide (28 < (((rd_T52 l0_1 x13_1).f1).length : Int)) = false := decide_eq_false c8
        have c8b1 : decide (28 < ((rd_T52 l0_1 x13_1).f1).length) = false := decide_eq_false (by omega)
        clear c8
        have H' := Aside0.mk H
        clear H
        have p124 : 0 ≤ (x13_1 : Int) := of_decide_eq_true q4_
        have q124 : x13_1 < (l0_1.length : Int) := of_decide_eq_true q4_
        obtain ⟨ad124, A124_3, c124_3, e124, hx124_0, hx124_1, hx124_2, hx124_3, hl124_3, hi124_3⟩ := at_T52 HR0_1.out x13_1 p124 q124
        cases e124
        replace hx124_0 := (HB.out.cell (World.block_lt_of_cell? w _ hx124_0)).trans hx124_0
        replace hx124_1 := (HB.out.cell (World.block_lt_of_cell? w _ hx124_1)).trans hx124_1
        replace hx124_2 := (HB.out.cell (World.block_lt_of_cell? w _ hx124_2)).trans hx124_2
        replace hx124_3 := (HB.out.cell (World.block_lt_of_cell? w _ hx124_3)).trans hx124_3
        have HR124_3 := Aside0.mk hi124_3
        have HC124_3 := Aside0.mk hl124_3
        clear hi124_3 hl124_3
        replace p124 := eq_true p124
        replace q124 := eq_true q124
        go_wp2_with (first | ((with_reducible refine gate_dst (N := 4) rfl ?_); (try (refine gate_guard (by rfl) ?_; dsimp only)); refine box_event ?hg (N := 4) ?hd (cs := #[.int .i64 0, .int .i64 0, .int .i64 0, .slice none 0 0]) (t := 52) ?hr ?_; (case hd => rfl); (case hg => rfl); (case hr => first | (go_simp; done) | (go_simp; rfl)); intro gb125 hg w12 hbox hb; have n0_ := Aside0.mk (blk_below (g := gb123) (o := .cells #[.int .i64 a0_0, .slice (some ad124) l0_1.length c0_1, .slice A0_2 l0_2.length c0_2] 25 (0, 0)) q66_ hb); have n1_ := Aside0.mk (below_step q33_ hb); have n2_ := Aside0.mk (hbox); have n3_ := Aside0.mk ((by rw [hg]; exact (below_size q33_) : w.heap.size ≤ gb125)); have n4_ := Aside0.mk ((by rw [hg]; exact (below_size q33_) : w.heap.size ≤ gb125)); have n5_ := Aside0.mk ((by rw [hg]; exact Nat.ne_of_lt (blk_lt (g := gb123) (o := .cells #[.int .i64 a0_0, .slice (some ad124) l0_1.length c0_1, .slice A0_2 l0_2.length c0_2] 25 (0, 0)) q66_) : gb123 ≠ gb125)); have n6_ := Aside0.mk ((by rw [hg]; exact Nat.ne_of_gt (blk_lt (g := gb123) (o := .cells #[.int .i64 a0_0, .slice (some ad124) l0_1.length c0_1, .slice A0_2 l0_2.length c0_2] 25 (0, 0)) q66_) : gb125 ≠ gb123)); clear BK123; clear HB; have BK123 := n0_; have HB := n1_; have BK125 := n2_; have GW125 := n3_; have GE125 := n4_; have NB123_125 := n5_; have NB125_123 := n6_; clear n0_ n1_ n2_ n3_ n4_ n5_ n6_; clear hb hbox hg; have hnb13 := NB125_123.out; have hnc13 := NB123_125.out; have hcz14_0 : w12.cell? ⟨gb125, 0, none⟩ = some (.int .i64 0) := (blk_cell BK125.out 0).trans rfl; have hcz14_1 : w12.cell? ⟨gb125, 1, none⟩ = some (.int .i64 0) := (blk_cell BK125.out 1).trans rfl; have hcz14_2 : w12.cell? ⟨gb125, 2, none⟩ = some (.int .i64 0) := (blk_cell BK125.out 2).trans rfl; have hcz14_3 : w12.cell? ⟨gb125, 3, none⟩ = some (.slice none 0 0) := (blk_cell BK125.out 3).trans rfl; have hfz14_0 := blk_frozen BK125.out 0; have hfz14_1 := blk_frozen BK125.out 1; have hfz14_2 := blk_frozen BK125.out 2; have hfz14_3 := blk_frozen BK125.out 3))
        go_roundg k1
        case measure => have := HK1.out; omega
        case rel => exact ⟨(wrap64 (x13_1 + 1)), q14_, H', ⟨by have := HK1.out; omega⟩, ⟨by (with_reducible repeat (first | refine blk_drewN ?_ _ | refine blk_drew ?_ | refine blk_alloc ?_ _)); refine blk_far ?_ NB123_125.out _; (with_reducible repeat (first | refine blk_drewN ?_ _ | refine blk_drew ?_ | refine blk_alloc ?_ _)); refine blk_far ?_ NB123_125.out _; (with_reducible repeat (first | refine blk_drewN ?_ _ | refine blk_drew ?_ | refine blk_alloc ?_ _)); refine blk_far ?_ NB123_125.out _; (with_reducible repeat (first | refine blk_drewN ?_ _ | refine blk_drew ?_ | refine blk_alloc ?_ _)); refine blk_far ?_ NB123_125.out _; (with_reducible repeat (first | refine blk_drewN ?_ _ | refine blk_drew ?_ | refine blk_alloc ?_ _)); exact BK123.out⟩, ⟨by repeat (first | (with_reducible first | exact HB.out | apply below_alloc | apply pw_below_drewN | apply below_drew1 | refine below_set ?_ GE123.out | refine below_set ?_ GE125.out) | exact HB.out)⟩⟩
      ·rw [if_neg c7] at H
       exact absurd H (by simp)
     ·rw [if_neg c6] at H
      exact absurd H (by simp)
    ·rw [if_neg c5] at H
     have c5b0 : decide (x13_1 < (l0_1.length : Int)) = false := decide_eq_false c5
     clear c5
     by_cases c15 : (l0_2.length : Int) = 0
     ·rw [if_pos c15] at H
      have c15b0 : ((l0_2.length : Int) == 0) = true := beq_iff_eq.mpr c15
      have c15b1 : ((l0_2.length : Int) != 0) = false := bne_eq_false_iff_eq.mpr c15
      clear c15
      replace H := Option.bind_eq_some_iff.mp H
      obtain ⟨t126, A160, H⟩ := H
      replace H : (if t126 = true then ((api_Item_27.f l0_1).bind fun t127 => (some t127)) else (some false)) = some r := H
      have A16 := Aside0.mk A160
      clear A160
      by_cases c17 : t126 = true
      ·subst c17
       have H1 : ((api_Item_27.f l0_1).bind fun t127 => (some t127)) = some r := by rw [if_pos rfl] at H; exact H
       clear H
       have H := H1
       clear H1
       replace H := Option.bind_eq_some_iff.mp H
       obtain ⟨t127, A180, H⟩ := H
       replace H : (some t127) = some r := H
       have A18 := Aside0.mk A180
       clear A180
       obtain rfl := Option.some.inj H
       have hcz19_0 : wr.cell? ⟨gb123, 0, none⟩ = some (.int .i64 a0_0) := (blk_cell BK123.out 0).trans rfl
       have hcz19_1 : wr.cell? ⟨gb123, 1, none⟩ = some (.slice A0_1 l0_1.length c0_1) := (blk_cell BK123.out 1).trans rfl
       have hcz19_2 : wr.cell? ⟨gb123, 2, none⟩ = some (.slice A0_2 l0_2.length c0_2) := (blk_cell BK123.out 2).trans rfl
       have hfz19_0 := blk_frozen BK123.out 0
       have hfz19_1 := blk_frozen BK123.out 1
       have hfz19_2 := blk_frozen BK123.out 2
       go_wp2_with (first | (go_at_call 26; (with_reducible refine (node_within.calls (l0_1.length : Int) 1 6 true _ A16.out).mono ?_); rintro e w' ⟨rfl, ⟨nd, rfl⟩⟩) | (go_at_call 27; (with_reducible refine (api_Item_27.calls _ _ l0_1 t127 _ ?side1 ?side2 A18.out).mono ?_); (case side1 => repeat (first | exact (Kd.C_below HR0_1.out q33_) | (with_reducible refine Kd.C_alloc ?_ _) | (with_reducible refine Kd.C_drewN ?_ _) | (with_reducible refine Kd.C_drew ?_))); (case side2 => exact HC0_1.out); rintro e w20 ⟨rfl, hb⟩; have n0_ := Aside0.mk (blk_below (g := gb123) (o := .cells #[.int .i64 a0_0, .slice A0_1 l0_1.length c0_1, .slice A0_2 l0_2.length c0_2] 25 (0, 0)) q66_ hb); have n1_ := Aside0.mk (below_step q33_ hb); clear BK123; clear HB; have BK123 := n0_; have HB := n1_; clear n0_ n1_; (try clear hb); (try clear hb2); (try clear hk); (try clear hi)))
       go_ret
       exact ⟨q6_, by repeat (first | (with_reducible first | exact HB.out | apply below_alloc | apply pw_below_drewN | apply below_drew1 | refine below_set ?_ GE123.out) | exact HB.out)⟩
      ·replace c17 := Bool.eq_false_iff.mpr c17
       subst c17
       have H1 : (some false) = some r := by rw [if_neg (show ¬ (false = true) by decide)] at H; exact H
       clear H
       have H := H1
       clear H1
       obtain rfl := Option.some.inj H
       have hcz21_0 : wr.cell? ⟨gb123, 0, none⟩ = some (.int .i64 a0_0) := (blk_cell BK123.out 0).trans rfl
       have hcz21_1 : wr.cell? ⟨gb123, 1, none⟩ = some (.slice A0_1 l0_1.length c0_1) := (blk_cell BK123.out 1).trans rfl
       have hcz21_2 : wr.cell? ⟨gb123, 2, none⟩ = some (.slice A0_2 l0_2.length c0_2) := (blk_cell BK123.out 2).trans rfl
       have hfz21_0 := blk_frozen BK123.out 0
       have hfz21_1 := blk_frozen BK123.out 1
       have hfz21_2 := blk_frozen BK123.out 2
       go_wp2_with (first | (go_at_call 26; (with_reducible refine (node_within.calls (l0_1.length : Int) 1 6 false _ A16.out).mono ?_); rintro e w' ⟨rfl, ⟨nd, rfl⟩⟩))
       go_ret
       exact ⟨q6_, by repeat (first | (with_reducible first | exact HB.out | apply below_alloc | apply pw_below_drewN | apply below_drew1 | refine below_set ?_ GE123.out) | exact HB.out)⟩
     ·rw [if_neg c15] at H
      have c15b0 : ((l0_2.length : Int) == 0) = false := beq_eq_false_iff_ne.mpr c15
      have c15b1 : ((l0_2.length : Int) != 0) = true := bne_iff_ne.mpr c15
      have c15b2 : ¬ (l0_2 = []) := fun h_ => c15 (by rw [h_]; rfl)
      obtain rfl := Option.some.inj H
      have hcz22_0 : wr.cell? ⟨gb123, 0, none⟩ = some (.int .i64 a0_0) := (blk_cell BK123.out 0).trans rfl
      have hcz22_1 : wr.cell? ⟨gb123, 1, none⟩ = some (.slice A0_1 l0_1.length c0_1) := (blk_cell BK123.out 1).trans rfl
      have hcz22_2 : wr.cell? ⟨gb123, 2, none⟩ = some (.slice A0_2 l0_2.length c0_2) := (blk_cell BK123.out 2).trans rfl
      have hfz22_0 := blk_frozen BK123.out 0
      have hfz22_1 := blk_frozen BK123.out 1
      have hfz22_2 := blk_frozen BK123.out 2
      go_wp2
      go_ret
      exact ⟨q6_, by repeat (first | (with_reducible first | exact HB.out | apply below_alloc | apply pw_below_drewN | apply below_drew1 | refine below_set ?_ GE123.out) | exact HB.out)⟩
 ·rw [if_neg c2] at H
  have c2b0 : (a0_0 == 0) = false := beq_eq_false_iff_ne.mpr c2
  have c2b1 : (a0_0 != 0) = true := bne_iff_ne.mpr c2
  have H' := Aside0.mk H
  clear H
  go_enter Try.func11, Try.ntmps11
  go_wp2_with (first | ((with_reducible refine gate_dst (N := 1) rfl ?_); (try (refine gate_guard (by rfl) ?_; dsimp only)); refine box_event ?hg (N := 1) ?hd (cs := #[.int .i64 a0_0, .slice A0_1 l0_1.length c0_1, .slice A0_2 l0_2.length c0_2]) (t := 25) ?hr ?_; (case hd => rfl); (case hg => rfl); (case hr => first | (go_simp; done) | (go_simp; rfl)); intro gb123 hg w23 hbox hb; have n0_ := Aside0.mk (below_step q0_ hb); have n1_ := Aside0.mk (hbox); have n2_ := Aside0.mk ((by rw [hg]; exact (below_size q0_) : w.heap.size ≤ gb123)); have n3_ := Aside0.mk ((by rw [hg]; exact (below_size q0_) : w.heap.size ≤ gb123)); clear HB; have HB := n0_; have BK123 := n1_; have GW123 := n2_; have GE123 := n3_; clear n0_ n1_ n2_ n3_; clear hb hbox hg; have hcz24_0 : w23.cell? ⟨gb123, 0, none⟩ = some (.int .i64 a0_0) := (blk_cell BK123.out 0).trans rfl; have hcz24_1 : w23.cell? ⟨gb123, 1, none⟩ = some (.slice A0_1 l0_1.length c0_1) := (blk_cell BK123.out 1).trans rfl; have hcz24_2 : w23.cell? ⟨gb123, 2, none⟩ = some (.slice A0_2 l0_2.length c0_2) := (blk_cell BK123.out 2).trans rfl; have hfz24_0 := blk_frozen BK123.out 0; have hfz24_1 := blk_frozen BK123.out 1; have hfz24_2 := blk_frozen BK123.out 2))
  go_loopg [40] k (fun kq v40 w' => ∃ (x40_1 : Int), v40 = .int .i64 x40_1 ∧ Aside0 (node_May.l1 kq l0_2 (l0_2.length : Int) x40_1 a0_0 l0_1 l0_2 = some r) ∧ Aside0 (kq ≤ k) ∧ Aside0 (w'.heap[gb123]? = some (.cells #[.int .i64 a0_0, (.slice A0_1 l0_1.length c0_1), (.slice A0_2 l0_2.length c0_2)] 25 (0, 0))) ∧ Aside0 (Below w.heap.size w w'))
  case atStart => exact ⟨(0), q14_, H', ⟨Nat.le_refl _⟩, ⟨q66_⟩, ⟨q33_⟩⟩
  case round =>
   clear H'
   try clear c1
   try clear p1
   try clear q1
   try clear hx1
   try clear c2
   try clear c2b0
   try clear c2b1
   try clear p2
   try clear c5
   try clear c5b0
   try clear c6
   try clear c6b0
   try clear p6
   try clear c7
   try clear c7b0
   try clear c8
   try clear c8b0
   try clear c8b1
   try clear c10
   try clear c11
   try clear c12
   try clear p12
   try clear q12
   try clear hx12
   try clear c13
   try clear c15
   try clear c15b0
   try clear c15b1
   try clear c15b2
   try clear c17
   try clear hcz11_0
   try clear hcz11_1
   try clear hcz11_2
   try clear hcz11_3
   try clear hcz14_0
   try clear hcz14_1
   try clear hcz14_2
   try clear hcz14_3
   try clear hcz19_0
   try clear hcz19_1
   try clear hcz19_2
   try clear hcz21_0
   try clear hcz21_1
   try clear hcz21_2
   try clear hcz22_0
   try clear hcz22_1
   try clear hcz22_2
   try clear hcz24_0
   try clear hcz24_1
   try clear hcz24_2
   try clear hcz4_0
   try clear hcz4_1
   try clear hcz4_2
   try clear hfz11_0
   try clear hfz11_1
   try clear hfz11_2
   try clear hfz11_3
   try clear hfz14_0
   try clear hfz14_1
   try clear hfz14_2
   try clear hfz14_3
   try clear hfz19_0
   try clear hfz19_1
   try clear hfz19_2
   try clear hfz21_0
   try clear hfz21_1
   try clear hfz21_2
   try clear hfz22_0
   try clear hfz22_1
   try clear hfz22_2
   try clear hfz24_0
   try clear hfz24_1
   try clear hfz24_2
   try clear hfz4_0
   try clear hfz4_1
   try clear hfz4_2
   try clear hx124_0
   try clear hx124_1
   try clear hx124_2
   try clear hx124_3
   try clear p124
   try clear p2
   try clear q124
   obtain ⟨x40_1, rfl, HA, HK1, BK123, HB⟩ := hrel
   cases gk with
   | zero => exact absurd (show none = some _ from HA.out) (by simp)
   | succ k1 =>
    have H := HA.out
    clear HA
    simp only [node_May.l1] at H
    by_cases c25 : x40_1 < (l0_2.length : Int)
    ·rw [if_pos c25] at H
     have c25b0 : decide (x40_1 < (l0_2.length : Int)) = true := decide_eq_true c25
     clear c25
     by_cases c26 : 0 ≤ x40_1
     ·rw [if_pos c26] at H
      have c26b0 : decide (0 ≤ x40_1) = true := decide_eq_true c26
      clear c26
      by_cases c27 : x40_1 < (l0_2.length : Int)
      ·rw [if_pos c27] at H
       have c27b0 : decide (x40_1 < (l0_2.length : Int)) = true := decide_eq_true c27
       clear c27
       replace H := Option.bind_eq_some_iff.mp H
       obtain ⟨t130, A280, H⟩ := H
       replace H : (if t130 = true then (node_May.l1 k1 l0_2 (l0_2.length : Int) (wrap64 (x40_1 + 1)) a0_0 l0_1 l0_2) else (some false)) = some r := H
       have A28 := Aside0.mk A280
       clear A280
       by_cases c29 : t130 = true
       ·subst c29
        have H1 : (node_May.l1 k1 l0_2 (l0_2.length : Int) (wrap64 (x40_1 + 1)) a0_0 l0_1 l0_2) = some r := by rw [if_pos rfl] at H; exact H
        clear H
        have H := H1
        clear H1
        have H' := Aside0.mk H
        clear H
        have p128 : 0 ≤ (x40_1 : Int) := of_decide_eq_true q4_
        have q128 : x40_1 < (l0_2.length : Int) := of_decide_eq_true q4_
        obtain ⟨ad128, e128, hx128_0, hx128_1, hx128_2, hx128_3⟩ := at_T57 HR0_2.out x40_1 p128 q128
        cases e128
        replace hx128_0 := (HB.out.cell (World.block_lt_of_cell? w _ hx128_0)).trans hx128_0
        replace hx128_1 := (HB.out.cell (World.block_lt_of_cell? w _ hx128_1)).trans hx128_1
        replace hx128_2 := (HB.out.cell (World.block_lt_of_cell? w _ hx128_2)).trans hx128_2
        replace hx128_3 := (HB.out.cell (World.block_lt_of_cell? w _ hx128_3)).trans hx128_3
        replace p128 := eq_true p128
        replace q128 := eq_true q128
        go_wp2_with (first | ((with_reducible refine gate_dst (N := 6) rfl ?_); (try (refine gate_guard (by rfl) ?_; dsimp only)); refine box_event ?hg (N := 6) ?hd (cs := #[.int .i64 0, .int .i64 0, .int .i64 0, .int .i64 0]) (t := 57) ?hr ?_; (case hd => rfl); (case hg => rfl); (case hr => first | (go_simp; done) | (go_simp; rfl)); intro gb129 hg w30 hbox hb; have n0_ := Aside0.mk (blk_below (g := gb123) (o := .cells #[.int .i64 a0_0, .slice A0_1 l0_1.length c0_1, .slice (some ad128) l0_2.length c0_2] 25 (0, 0)) q66_ hb); have n1_ := Aside0.mk (below_step q33_ hb); have n2_ := Aside0.mk (hbox); have n3_ := Aside0.mk ((by rw [hg]; exact (below_size q33_) : w.heap.size ≤ gb129)); have n4_ := Aside0.mk ((by rw [hg]; exact (below_size q33_) : w.heap.size ≤ gb129)); have n5_ := Aside0.mk ((by rw [hg]; exact Nat.ne_of_lt (blk_lt (g := gb123) (o := .cells #[.int .i64 a0_0, .slice A0_1 l0_1.length c0_1, .slice (some ad128) l0_2.length c0_2] 25 (0, 0)) q66_) : gb123 ≠ gb129)); have n6_ := Aside0.mk ((by rw [hg]; exact Nat.ne_of_gt (blk_lt (g := gb123) (o := .cells #[.int .i64 a0_0, .slice A0_1 l0_1.length c0_1, .slice (some ad128) l0_2.length c0_2] 25 (0, 0)) q66_) : gb129 ≠ gb123)); clear BK123; clear HB; have BK123 := n0_; have HB := n1_; have BK129 := n2_; have GW129 := n3_; have GE129 := n4_; have NB123_129 := n5_; have NB129_123 := n6_; clear n0_ n1_ n2_ n3_ n4_ n5_ n6_; clear hb hbox hg; have hnb31 := NB129_123.out; have hnc31 := NB123_129.out; have hcz32_0 : w30.cell? ⟨gb129, 0, none⟩ = some (.int .i64 0) := (blk_cell BK129.out 0).trans rfl; have hcz32_1 : w30.cell? ⟨gb129, 1, none⟩ = some (.int .i64 0) := (blk_cell BK129.out 1).trans rfl; have hcz32_2 : w30.cell? ⟨gb129, 2, none⟩ = some (.int .i64 0) := (blk_cell BK129.out 2).trans rfl; have hcz32_3 : w30.cell? ⟨gb129, 3, none⟩ = some (.int .i64 0) := (blk_cell BK129.out 3).trans rfl; have hfz32_0 := blk_frozen BK129.out 0; have hfz32_1 := blk_frozen BK129.out 1; have hfz32_2 := blk_frozen BK129.out 2; have hfz32_3 := blk_frozen BK129.out 3) | ((with_reducible refine gate_callee (f := 26) rfl ?_); refine goesL_ (some 46) rfl rfl Try.func26 q8_ rfl #[.int .i64 ((rd_T57 l0_2 x40_1).f1), .int .i64 1, .int .i64 2047] rfl q1_ ?_; (with_reducible refine (node_within.calls ((rd_T57 l0_2 x40_1).f1) 1 2047 true _ A28.out).mono ?_); rintro e w' ⟨rfl, ⟨nd, rfl⟩⟩; refine ⟨_, rfl, ?_⟩))
        go_roundg k1
        case measure => have := HK1.out; omega
        case rel => exact ⟨(wrap64 (x40_1 + 1)), q14_, H', ⟨by have := HK1.out; omega⟩, ⟨by (with_reducible repeat (first | refine blk_drewN ?_ _ | refine blk_drew ?_ | refine blk_alloc ?_ _)); refine blk_far ?_ NB123_129.out _; (with_reducible repeat (first | refine blk_drewN ?_ _ | refine blk_drew ?_ | refine blk_alloc ?_ _)); refine blk_far ?_ NB123_129.out _; (with_reducible repeat (first | refine blk_drewN ?_ _ | refine blk_drew ?_ | refine blk_alloc ?_ _)); refine blk_far ?_ NB123_129.out _; (with_reducible repeat (first | refine blk_drewN ?_ _ | refine blk_drew ?_ | refine blk_alloc ?_ _)); refine blk_far ?_ NB123_129.out _; (with_reducible repeat (first | refine blk_drewN ?_ _ | refine blk_drew ?_ | refine blk_alloc ?_ _)); exact BK123.out⟩, ⟨by repeat (first | (with_reducible first | exact HB.out | apply below_alloc | apply pw_below_drewN | apply below_drew1 | refine below_set ?_ GE123.out | refine below_set ?_ GE129.out) | exact HB.out)⟩⟩
       ·replace c29 := Bool.eq_false_iff.mpr c29
        subst c29
        have H1 : (some false) = some r := by rw [if_neg (show ¬ (false = true) by decide)] at H; exact H
        clear H
        have H := H1
        clear H1
        obtain rfl := Option.some.inj H
        have p128 : 0 ≤ (x40_1 : Int) := of_decide_eq_true q4_
        have q128 : x40_1 < (l0_2.length : Int) := of_decide_eq_true q4_
        obtain ⟨ad128, e128, hx128_0, hx128_1, hx128_2, hx128_3⟩ := at_T57 HR0_2.out x40_1 p128 q128
        cases e128
        replace hx128_0 := (HB.out.cell (World.block_lt_of_cell? w _ hx128_0)).trans hx128_0
        replace hx128_1 := (HB.out.cell (World.block_lt_of_cell? w _ hx128_1)).trans hx128_1
        replace hx128_2 := (HB.out.cell (World.block_lt_of_cell? w _ hx128_2)).trans hx128_2
        replace hx128_3 := (HB.out.cell (World.block_lt_of_cell? w _ hx128_3)).trans hx128_3
        replace p128 := eq_true p128
        replace q128 := eq_true q128
        go_wp2_with (first | ((with_reducible refine gate_dst (N := 6) rfl ?_); (try (refine gate_guard (by rfl) ?_; dsimp only)); refine box_event ?hg (N := 6) ?hd (cs := #[.int .i64 0, .int .i64 0, .int .i64 0, .int .i64 0]) (t := 57) ?hr ?_; (case hd => rfl); (case hg => rfl); (case hr => first | (go_simp; done) | (go_simp; rfl)); intro gb129 hg w33 hbox hb; have n0_ := Aside0.mk (blk_below (g := gb123) (o := .cells #[.int .i64 a0_0, .slice A0_1 l0_1.length c0_1, .slice (some ad128) l0_2.length c0_2] 25 (0, 0)) q66_ hb); have n1_ := Aside0.mk (below_step q33_ hb); have n2_ := Aside0.mk (hbox); have n3_ := Aside0.mk ((by rw [hg]; exact (below_size q33_) : w.heap.size ≤ gb129)); have n4_ := Aside0.mk ((by rw [hg]; exact (below_size q33_) : w.heap.size ≤ gb129)); have n5_ := Aside0.mk ((by rw [hg]; exact Nat.ne_of_lt (blk_lt (g := gb123) (o := .cells #[.int .i64 a0_0, .slice A0_1 l0_1.length c0_1, .slice (some ad128) l0_2.length c0_2] 25 (0, 0)) q66_) : gb123 ≠ gb129)); have n6_ := Aside0.mk ((by rw [hg]; exact Nat.ne_of_gt (blk_lt (g := gb123) (o := .cells #[.int .i64 a0_0, .slice A0_1 l0_1.length c0_1, .slice (some ad128) l0_2.length c0_2] 25 (0, 0)) q66_) : gb129 ≠ gb123)); clear BK123; clear HB; have BK123 := n0_; have HB := n1_; have BK129 := n2_; have GW129 := n3_; have GE129 := n4_; have NB123_129 := n5_; have NB129_123 := n6_; clear n0_ n1_ n2_ n3_ n4_ n5_ n6_; clear hb hbox hg; have hnb34 := NB129_123.out; have hnc34 := NB123_129.out; have hcz35_0 : w33.cell? ⟨gb129, 0, none⟩ = some (.int .i64 0) := (blk_cell BK129.out 0).trans rfl; have hcz35_1 : w33.cell? ⟨gb129, 1, none⟩ = some (.int .i64 0) := (blk_cell BK129.out 1).trans rfl; have hcz35_2 : w33.cell? ⟨gb129, 2, none⟩ = some (.int .i64 0) := (blk_cell BK129.out 2).trans rfl; have hcz35_3 : w33.cell? ⟨gb129, 3, none⟩ = some (.int .i64 0) := (blk_cell BK129.out 3).trans rfl; have hfz35_0 := blk_frozen BK129.out 0; have hfz35_1 := blk_frozen BK129.out 1; have hfz35_2 := blk_frozen BK129.out 2; have hfz35_3 := blk_frozen BK129.out 3) | ((with_reducible refine gate_callee (f := 26) rfl ?_); refine goesL_ (some 46) rfl rfl Try.func26 q8_ rfl #[.int .i64 ((rd_T57 l0_2 x40_1).f1), .int .i64 1, .int .i64 2047] rfl q1_ ?_; (with_reducible refine (node_within.calls ((rd_T57 l0_2 x40_1).f1) 1 2047 false _ A28.out).mono ?_); rintro e w' ⟨rfl, ⟨nd, rfl⟩⟩; refine ⟨_, rfl, ?_⟩))
        go_ret
        exact ⟨q6_, by repeat (first | (with_reducible first | exact HB.out | apply below_alloc | apply pw_below_drewN | apply below_drew1 | refine below_set ?_ GE123.out | refine below_set ?_ GE129.out) | exact HB.out)⟩
      ·rw [if_neg c27] at H
       exact absurd H (by simp)
     ·rw [if_neg c26] at H
      exact absurd H (by simp)
    ·rw [if_neg c25] at H
     have c25b0 : decide (x40_1 < (l0_2.length : Int)) = false := decide_eq_false c25
     clear c25
     replace H := Option.bind_eq_some_iff.mp H
     obtain ⟨t131, A360, H⟩ := H
     replace H : (if t131 = true then (if (l0_1.length : Int) = 0 then ((node_within.f (l0_2.length : Int) 2 12).bind fun t132 => (if t132 = true then ((api_Kid_29.f l0_2).bind fun t133 => (some t133)) else (some false))) else (some false)) else (some false)) = some r := H
     have A36 := Aside0.mk A360
     clear A360
     by_cases c37 : t131 = true
     ·subst c37
      have H1 : (if (l0_1.length : Int) = 0 then ((node_within.f (l0_2.length : Int) 2 12).bind fun t132 => (if t132 = true then ((api_Kid_29.f l0_2).bind fun t133 => (some t133)) else (some false))) else (some false)) = some r := by rw [if_pos rfl] at H; exact H
      clear H
      have H := H1
      clear H1
      by_cases c38 : (l0_1.length : Int) = 0
      ·rw [if_pos c38] at H
       have c38b0 : ((l0_1.length : Int) == 0) = true := beq_iff_eq.mpr c38
       have c38b1 : ((l0_1.length : Int) != 0) = false := bne_eq_false_iff_eq.mpr c38
       clear c38
       replace H := Option.bind_eq_some_iff.mp H
       obtain ⟨t132, A390, H⟩ := H
       replace H : (if t132 = true then ((api_Kid_29.f l0_2).bind fun t133 => (some t133)) else (some false)) = some r := H
       have A39 := Aside0.mk A390
       clear A390
       by_cases c40 : t132 = true
       ·subst c40
        have H1 : ((api_Kid_29.f l0_2).bind fun t133 => (some t133)) = some r := by rw [if_pos rfl] at H; exact H
        clear H
        have H := H1
        clear H1
        replace H := Option.bind_eq_some_iff.mp H
        obtain ⟨t133, A410, H⟩ := H
        replace H : (some t133) = some r := H
        have A41 := Aside0.mk A410
        clear A410
        obtain rfl := Option.some.inj H
        have hcz42_0 : wr.cell? ⟨gb123, 0, none⟩ = some (.int .i64 a0_0) := (blk_cell BK123.out 0).trans rfl
        have hcz42_1 : wr.cell? ⟨gb123, 1, none⟩ = some (.slice A0_1 l0_1.length c0_1) := (blk_cell BK123.out 1).trans rfl
        have hcz42_2 : wr.cell? ⟨gb123, 2, none⟩ = some (.slice A0_2 l0_2.length c0_2) := (blk_cell BK123.out 2).trans rfl
        have hfz42_0 := blk_frozen BK123.out 0
        have hfz42_1 := blk_frozen BK123.out 1
        have hfz42_2 := blk_frozen BK123.out 2
        go_wp2_with (first | ((with_reducible refine gate_callee (f := 26) rfl ?_); refine goesL_ (some 51) rfl rfl Try.func26 q8_ rfl #[.int .i64 a0_0, .int .i64 1, .int .i64 7] rfl q1_ ?_; (with_reducible refine (node_within.calls a0_0 1 7 true _ A36.out).mono ?_); rintro e w' ⟨rfl, ⟨nd, rfl⟩⟩; refine ⟨_, rfl, ?_⟩) | (go_at_call 26; (with_reducible refine (node_within.calls (l0_2.length : Int) 2 12 true _ A39.out).mono ?_); rintro e w' ⟨rfl, ⟨nd, rfl⟩⟩) | (go_at_call 29; (with_reducible refine (api_Kid_29.calls _ _ l0_2 t133 _ ?side1 ?side2 A41.out).mono ?_); (case side1 => repeat (first | exact (Kd.C_below HR0_2.out q33_) | (with_reducible refine Kd.C_alloc ?_ _) | (with_reducible refine Kd.C_drewN ?_ _) | (with_reducible refine Kd.C_drew ?_))); (case side2 => exact HC0_2.out); rintro e w43 ⟨rfl, hb⟩; have n0_ := Aside0.mk (blk_below (g := gb123) (o := .cells #[.int .i64 a0_0, .slice A0_1 l0_1.length c0_1, .slice A0_2 l0_2.length c0_2] 25 (0, 0)) q66_ hb); have n1_ := Aside0.mk (below_step q33_ hb); clear BK123; clear HB; have BK123 := n0_; have HB := n1_; clear n0_ n1_; (try clear hb); (try clear hb2); (try clear hk); (try clear hi)))
        go_ret
        exact ⟨q6_, by repeat (first | (with_reducible first | exact HB.out | apply below_alloc | apply pw_below_drewN | apply below_drew1 | refine below_set ?_ GE123.out) | exact HB.out)⟩
       ·replace c40 := Bool.eq_false_iff.mpr c40
        subst c40
        have H1 : (some false) = some r := by rw [if_neg (show ¬ (false = true) by decide)] at H; exact H
        clear H
        have H := H1
        clear H1
        obtain rfl := Option.some.inj H
        have hcz44_0 : wr.cell? ⟨gb123, 0, none⟩ = some (.int .i64 a0_0) := (blk_cell BK123.out 0).trans rfl
        have hcz44_1 : wr.cell? ⟨gb123, 1, none⟩ = some (.slice A0_1 l0_1.length c0_1) := (blk_cell BK123.out 1).trans rfl
        have hcz44_2 : wr.cell? ⟨gb123, 2, none⟩ = some (.slice A0_2 l0_2.length c0_2) := (blk_cell BK123.out 2).trans rfl
        have hfz44_0 := blk_frozen BK123.out 0
        have hfz44_1 := blk_frozen BK123.out 1
        have hfz44_2 := blk_frozen BK123.out 2
        go_wp2_with (first | ((with_reducible refine gate_callee (f := 26) rfl ?_); refine goesL_ (some 51) rfl rfl Try.func26 q8_ rfl #[.int .i64 a0_0, .int .i64 1, .int .i64 7] rfl q1_ ?_; (with_reducible refine (node_within.calls a0_0 1 7 true _ A36.out).mono ?_); rintro e w' ⟨rfl, ⟨nd, rfl⟩⟩; refine ⟨_, rfl, ?_⟩) | (go_at_call 26; (with_reducible refine (node_within.calls (l0_2.length : Int) 2 12 false _ A39.out).mono ?_); rintro e w' ⟨rfl, ⟨nd, rfl⟩⟩))
        go_ret
        exact ⟨q6_, by repeat (first | (with_reducible first | exact HB.out | apply below_alloc | apply pw_below_drewN | apply below_drew1 | refine below_set ?_ GE123.out) | exact HB.out)⟩
      ·rw [if_neg c38] at H
       have c38b0 : ((l0_1.length : Int) == 0) = false := beq_eq_false_iff_ne.mpr c38
       have c38b1 : ((l0_1.length : Int) != 0) = true := bne_iff_ne.mpr c38
       have c38b2 : ¬ (l0_1 = []) := fun h_ => c38 (by rw [h_]; rfl)
       obtain rfl := Option.some.inj H
       have hcz45_0 : wr.cell? ⟨gb123, 0, none⟩ = some (.int .i64 a0_0) := (blk_cell BK123.out 0).trans rfl
       have hcz45_1 : wr.cell? ⟨gb123, 1, none⟩ = some (.slice A0_1 l0_1.length c0_1) := (blk_cell BK123.out 1).trans rfl
       have hcz45_2 : wr.cell? ⟨gb123, 2, none⟩ = some (.slice A0_2 l0_2.length c0_2) := (blk_cell BK123.out 2).trans rfl
       have hfz45_0 := blk_frozen BK123.out 0
       have hfz45_1 := blk_frozen BK123.out 1
       have hfz45_2 := blk_frozen BK123.out 2
       go_wp2_with (first | ((with_reducible refine gate_callee (f := 26) rfl ?_); refine goesL_ (some 51) rfl rfl Try.func26 q8_ rfl #[.int .i64 a0_0, .int .i64 1, .int .i64 7] rfl q1_ ?_; (with_reducible refine (node_within.calls a0_0 1 7 true _ A36.out).mono ?_); rintro e w' ⟨rfl, ⟨nd, rfl⟩⟩; refine ⟨_, rfl, ?_⟩))
       go_ret
       exact ⟨q6_, by repeat (first | (with_reducible first | exact HB.out | apply below_alloc | apply pw_below_drewN | apply below_drew1 | refine below_set ?_ GE123.out) | exact HB.out)⟩
     ·replace c37 := Bool.eq_false_iff.mpr c37
      subst c37
      have H1 : (some false) = some r := by rw [if_neg (show ¬ (false = true) by decide)] at H; exact H
      clear H
      have H := H1
      clear H1
      obtain rfl := Option.some.inj H
      have hcz46_0 : wr.cell? ⟨gb123, 0, none⟩ = some (.int .i64 a0_0) := (blk_cell BK123.out 0).trans rfl
      have hcz46_1 : wr.cell? ⟨gb123, 1, none⟩ = some (.slice A0_1 l0_1.length c0_1) := (blk_cell BK123.out 1).trans rfl
      have hcz46_2 : wr.cell? ⟨gb123, 2, none⟩ = some (.slice A0_2 l0_2.length c0_2) := (blk_cell BK123.out 2).trans rfl
      have hfz46_0 := blk_frozen BK123.out 0
      have hfz46_1 := blk_frozen BK123.out 1
      have hfz46_2 := blk_frozen BK123.out 2
      go_wp2_with (first | ((with_reducible refine gate_callee (f := 26) rfl ?_); refine goesL_ (some 51) rfl rfl Try.func26 q8_ rfl #[.int .i64 a0_0, .int .i64 1, .int .i64 7] rfl q1_ ?_; (with_reducible refine (node_within.calls a0_0 1 7 false _ A36.out).mono ?_); rintro e w' ⟨rfl, ⟨nd, rfl⟩⟩; refine ⟨_, rfl, ?_⟩))
      go_ret
      exact ⟨q6_, by repeat (first | (with_reducible first | exact HB.out | apply below_alloc | apply pw_below_drewN | apply below_drew1 | refine below_set ?_ GE123.out) | exact HB.out)⟩

end Go.Proofs.Ytcjnknpbikfimaa.P
