/- Functions and contracts, written by a program (mkprint.py, a wrapper of ours around the print); texts between GIVEN marks are ours. -/
import Derived.Test.YtcjnknpbikfimaaPx0
import Derived.Test.YtcjnknpbikfimaaPx14
import Derived.Test.YtcjnknpbikfimaaPx15
namespace Go.Proofs.Ytcjnknpbikfimaa.P
open Go.RowKit Go.Proofs.YtcjnknpbikfimaaW.PrintWords Go.Proofs.YtcjnknpbikfimaaW.PrintLast Go.Proofs.YtcjnknpbikfimaaW.PrintMore
attribute [local go_sem] max2_int min2_int max_two min_two max_three min_three max_four min_four   -- for this text's walks alone
set_option linter.unusedVariables false
set_option linter.unusedSimpArgs false
theorem q82_ {P : Prop} (h : P := by repeat (first | (with_reducible first | exact HB.out | apply below_alloc | apply pw_below_drewN | apply below_drew1 | refine below_set ?_ GE214.out) | exact HB.out)) : P := h
theorem q126_ {P : Prop} (h : P := by (with_reducible repeat (first | refine blk_drewN ?_ _ | refine blk_drew ?_ | refine blk_alloc ?_ _)); exact BK214.out) : P := h

/-! ### cambiumref06_May: function 12 -/
mutual
def cambiumref06_May.l0 : Nat → Bool → Int → Int → List (S52) → List (S57) → Option (Bool)
 | 0, _, _, _, _, _ => none
 | k + 1, x3, x4, x215000, x215001, x215002 => if x4 < (x215001.length : Int) then (if 0 ≤ x4 then (if (((rd_T52 x215001 x4).f1).length : Int) > 28 then (some false) else (cambiumref06_May.l0 k x3 (wrap64 (x4 + 1)) x215000 x215001 x215002)) else (none)) else (if x3 = true then (if (x215002.length : Int) = 0 then (if (x215001.length : Int) ≥ 1 then (some (decide ((x215001.length : Int) ≤ 6))) else (some false)) else (some false)) else (some false))
def cambiumref06_May.l1 : Nat → Bool → Int → Int → List (S52) → List (S57) → Option (Bool)
 | 0, _, _, _, _, _ => none
 | k + 1, x3, x5, x215000, x215001, x215002 => if x5 < (x215002.length : Int) then (if 0 ≤ x5 then (if ((rd_T57 x215002 x5).f1) < 1 then (some false) else (if ((rd_T57 x215002 x5).f1) ≥ 2048 then (some false) else (cambiumref06_May.l1 k x3 (wrap64 (x5 + 1)) x215000 x215001 x215002))) else (none)) else (if x3 = true then (if x215000 ≥ 1 then (if x215000 < 8 then (if (x215001.length : Int) = 0 then (if (x215002.length : Int) ≥ 2 then (some (decide ((x215002.length : Int) ≤ 12))) else (some false)) else (some false)) else (some false)) else (some false)) else (some false))
end
def cambiumref06_May.f (k : Nat) (a0_0 : Int) (l0_1 : List (S52)) (l0_2 : List (S57)) : Option (Bool) := (cambiumref06_Keys.f k a0_0 l0_1 l0_2).bind fun t215 => ((cambiumref06_may.f k t215).bind fun t218 => (if a0_0 = 0 then (cambiumref06_May.l0 k t218 0 a0_0 l0_1 l0_2) else (cambiumref06_May.l1 k t218 0 a0_0 l0_1 l0_2)))
theorem cambiumref06_May.mono_l : ∀ k, (∀ y0 y1 y2 y3 y4, LeO (cambiumref06_May.l0 k y0 y1 y2 y3 y4) (cambiumref06_May.l0 (k + 1) y0 y1 y2 y3 y4)) ∧ (∀ y0 y1 y2 y3 y4, LeO (cambiumref06_May.l1 k y0 y1 y2 y3 y4) (cambiumref06_May.l1 (k + 1) y0 y1 y2 y3 y4))
 | 0 => ⟨fun _ _ _ _ _ r h => by simp [cambiumref06_May.l0] at h, fun _ _ _ _ _ r h => by simp [cambiumref06_May.l1] at h⟩
 | k + 1 => by
  obtain ⟨ih0, ih1⟩ := cambiumref06_May.mono_l k
  refine ⟨?_, ?_⟩
  ·intro y0 y1 y2 y3 y4
   unfold cambiumref06_May.l0
   repeat' first
   | (with_reducible exact ih0 _ _ _ _ _)
   | (with_reducible exact ih1 _ _ _ _ _)
   | (with_reducible exact cambiumref06_Keys.mono _ _ _ _)
   | (with_reducible exact cambiumref06_may.mono _ _)
   | (with_reducible exact LeO.refl _)
   | (with_reducible exact LeO.none _)
   | (with_reducible refine LeO.ite ?_ ?_)
   | (with_reducible refine LeO.bind ?_ (fun _ => ?_))
   | exact ih0 _ _ _ _ _
   | exact ih1 _ _ _ _ _
   | exact cambiumref06_Keys.mono _ _ _ _
   | exact cambiumref06_may.mono _ _
   | exact LeO.none _
   | refine LeO.ite ?_ ?_
   | refine LeO.bind ?_ (fun _ => ?_)
  ·intro y0 y1 y2 y3 y4
   unfold cambiumref06_May.l1
   repeat' first
   | (with_reducible exact ih0 _ _ _ _ _)
   | (with_reducible exact ih1 _ _ _ _ _)
   | (with_reducible exact cambiumref06_Keys.mono _ _ _ _)
   | (with_reducible exact cambiumref06_may.mono _ _)
   | (with_reducible exact LeO.refl _)
   | (with_reducible exact LeO.none _)
   | (with_reducible refine LeO.ite ?_ ?_)
   | (with_reducible refine LeO.bind ?_ (fun _ => ?_))
   | exact ih0 _ _ _ _ _
   | exact ih1 _ _ _ _ _
   | exact cambiumref06_Keys.mono _ _ _ _
   | exact cambiumref06_may.mono _ _
   | exact LeO.none _
   | refine LeO.ite ?_ ?_
   | refine LeO.bind ?_ (fun _ => ?_)
theorem cambiumref06_May.mono : ∀ a0 a1 a2 k, LeO (cambiumref06_May.f k a0 a1 a2) (cambiumref06_May.f (k + 1) a0 a1 a2) := by
 intro a0 a1 a2 k
 obtain ⟨ih0, ih1⟩ := cambiumref06_May.mono_l k
 unfold cambiumref06_May.f
 repeat' first
   | (with_reducible exact ih0 _ _ _ _ _)
   | (with_reducible exact ih1 _ _ _ _ _)
   | (with_reducible exact cambiumref06_Keys.mono _ _ _ _)
   | (with_reducible exact cambiumref06_may.mono _ _)
   | (with_reducible exact LeO.refl _)
   | (with_reducible exact LeO.none _)
   | (with_reducible refine LeO.ite ?_ ?_)
   | (with_reducible refine LeO.bind ?_ (fun _ => ?_))
   | exact ih0 _ _ _ _ _
   | exact ih1 _ _ _ _ _
   | exact cambiumref06_Keys.mono _ _ _ _
   | exact cambiumref06_may.mono _ _
   | exact LeO.none _
   | refine LeO.ite ?_ ?_
   | refine LeO.bind ?_ (fun _ => ?_)
set_option maxHeartbeats 8000000 in
set_option maxRecDepth 100000 in
theorem cambiumref06_May.calls (k : Nat) (a0_0 : Int) (A0_1 : Option Addr) (c0_1 : Nat) (l0_1 : List (S52)) (A0_2 : Option Addr) (c0_2 : Nat) (l0_2 : List (S57)) (r : Bool) (w : World) (hr0_1 : Kd.C k52 w A0_1 l0_1.length l0_1) (hc0_1 : l0_1.length ≤ c0_1) (hr0_2 : Kd.C k57 w A0_2 l0_2.length l0_2) (hc0_2 : l0_2.length ≤ c0_2) (h : cambiumref06_May.f k a0_0 l0_1 l0_2 = some r) :
  Calls Try.prog 12 #[.agg #[.int .i64 a0_0, .slice A0_1 l0_1.length c0_1, .slice A0_2 l0_2.length c0_2]] w fun e w' => e = .returned (.bool r) ∧ Below w.heap.size w w' := by
 have hu25 := Try.underlying25
 have HR0_1 := Aside0.mk hr0_1
 have HC0_1 := Aside0.mk hc0_1
 clear hr0_1 hc0_1
 have HR0_2 := Aside0.mk hr0_2
 have HC0_2 := Aside0.mk hc0_2
 clear hr0_2 hc0_2
 have HB := Aside0.mk (Below.refl w.heap.size w)
 have H : ((cambiumref06_Keys.f k a0_0 l0_1 l0_2).bind fun t215 => ((cambiumref06_may.f k t215).bind fun t218 => (if a0_0 = 0 then (cambiumref06_May.l0 k t218 0 a0_0 l0_1 l0_2) else (cambiumref06_May.l1 k t218 0 a0_0 l0_1 l0_2)))) = some r := h
 clear h
 replace H := Option.bind_eq_some_iff.mp H
 obtain ⟨t215, A20, H⟩ := H
 replace H : ((cambiumref06_may.f k t215).bind fun t218 => (if a0_0 = 0 then (cambiumref06_May.l0 k t218 0 a0_0 l0_1 l0_2) else (cambiumref06_May.l1 k t218 0 a0_0 l0_1 l0_2))) = some r := H
 have A2 := Aside0.mk A20
 clear A20
 replace H := Option.bind_eq_some_iff.mp H
 obtain ⟨t218, A30, H⟩ := H
 replace H : (if a0_0 = 0 then (cambiumref06_May.l0 k t218 0 a0_0 l0_1 l0_2) else (cambiumref06_May.l1 k t218 0 a0_0 l0_1 l0_2)) = some r := H
 have A3 := Aside0.mk A30
 clear A30
 by_cases c4 : a0_0 = 0
 ·rw [if_pos c4] at H
  have c4b0 : (a0_0 == 0) = true := beq_iff_eq.mpr c4
  have c4b1 : (a0_0 != 0) = false := bne_eq_false_iff_eq.mpr c4
  clear c4
  have H' := Aside0.mk H
  clear H
  go_enter Try.func12, Try.ntmps12
  go_wp2_with (first | ((with_reducible refine gate_dst (N := 1) rfl ?_); (try (refine gate_guard (by rfl) ?_; dsimp only)); refine box_event ?hg (N := 1) ?hd (cs := #[.int .i64 a0_0, .slice A0_1 l0_1.length c0_1, .slice A0_2 l0_2.length c0_2]) (t := 25) ?hr ?_; (case hd => rfl); (case hg => rfl); (case hr => first | (go_simp; done) | (go_simp; rfl)); intro gb214 hg w5 hbox hb; have n0_ := Aside0.mk (below_step q0_ hb); have n1_ := Aside0.mk (hbox); have n2_ := Aside0.mk ((by rw [hg]; exact (below_size q0_) : w.heap.size ≤ gb214)); have n3_ := Aside0.mk ((by rw [hg]; exact (below_size q0_) : w.heap.size ≤ gb214)); clear HB; have HB := n0_; have BK214 := n1_; have GW214 := n2_; have GE214 := n3_; clear n0_ n1_ n2_ n3_; clear hb hbox hg; have hcz6_0 : w5.cell? ⟨gb214, 0, none⟩ = some (.int .i64 a0_0) := (blk_cell BK214.out 0).trans rfl; have hcz6_1 : w5.cell? ⟨gb214, 1, none⟩ = some (.slice A0_1 l0_1.length c0_1) := (blk_cell BK214.out 1).trans rfl; have hcz6_2 : w5.cell? ⟨gb214, 2, none⟩ = some (.slice A0_2 l0_2.length c0_2) := (blk_cell BK214.out 2).trans rfl; have hfz6_0 := blk_frozen BK214.out 0; have hfz6_1 := blk_frozen BK214.out 1; have hfz6_2 := blk_frozen BK214.out 2) | ((with_reducible refine gate_callee (f := 16) rfl ?_); refine goesL_ (some 7) rfl rfl Try.func16 q8_ rfl #[.agg #[.int .i64 a0_0, .slice A0_1 l0_1.length c0_1, .slice A0_2 l0_2.length c0_2]] rfl q1_ ?_; (with_reducible refine (cambiumref06_Keys.calls k a0_0 _ _ l0_1 _ _ l0_2 t215 _ ?side1 ?side2 ?side3 ?side4 A2.out).mono ?_); (case side1 => repeat (first | exact (Kd.C_below HR0_1.out HB.out) | (with_reducible refine Kd.C_alloc ?_ _) | (with_reducible refine Kd.C_drewN ?_ _) | (with_reducible refine Kd.C_drew ?_))); (case side2 => exact HC0_1.out); (case side3 => repeat (first | exact (Kd.C_below HR0_2.out HB.out) | (with_reducible refine Kd.C_alloc ?_ _) | (with_reducible refine Kd.C_drewN ?_ _) | (with_reducible refine Kd.C_drew ?_))); (case side4 => exact HC0_2.out); rintro e w7 ⟨v216, rfl, ho0, hb⟩; refine ⟨_, rfl, ?_⟩; have n0_ := Aside0.mk (Kd.R_lower ho0 (below_size q82_)); have n1_ := Aside0.mk (blk_below (g := gb214) (o := .cells #[.int .i64 a0_0, .slice A0_1 l0_1.length c0_1, .slice A0_2 l0_2.length c0_2] 25 (0, 0)) q126_ hb); have n2_ := Aside0.mk (below_step q82_ hb); clear BK214; clear HB; have HO217 := n0_; have BK214 := n1_; have HB := n2_; clear n0_ n1_ n2_; (try clear hb); (try clear hb2); (try clear hk); (try clear hi); (try clear ho0); obtain ⟨Ao8, co8, eo8⟩ := Kd.R_slice HO217.out; subst eo8) | ((with_reducible refine gate_callee (f := 31) rfl ?_); refine goesL_ (some 8) rfl rfl Try.func31 q8_ rfl #[.slice Ao8 t215.length co8] rfl q1_ ?_; (with_reducible refine (cambiumref06_may.calls k _ _ t215 t218 _ ?side1 ?side2 A3.out).mono ?_); (case side1 => repeat (first | exact (Kd.R_reads' HO217.out).2.2 | (with_reducible refine Kd.C_alloc ?_ _) | (with_reducible refine Kd.C_drewN ?_ _) | (with_reducible refine Kd.C_drew ?_))); (case side2 => exact (Kd.R_reads' HO217.out).2.1); rintro e w9 ⟨rfl, hb⟩; refine ⟨_, rfl, ?_⟩; have n0_ := Aside0.mk (Kd.R_below (by (with_reducible repeat (first | apply Kd.R_alloc | apply Kd.R_drewN | apply Kd.R_drew)); exact HO217.out) hb); have n1_ := Aside0.mk (blk_below (g := gb214) (o := .cells #[.int .i64 a0_0, .slice A0_1 l0_1.length c0_1, .slice A0_2 l0_2.length c0_2] 25 (0, 0)) q126_ hb); have n2_ := Aside0.mk (below_step q82_ hb); clear HO217; clear BK214; clear HB; have HO217 := n0_; have BK214 := n1_; have HB := n2_; clear n0_ n1_ n2_; (try clear hb); (try clear hb2); (try clear hk); (try clear hi); have hcz10_0 : w9.cell? ⟨gb214, 0, none⟩ = some (.int .i64 a0_0) := (blk_cell BK214.out 0).trans rfl; have hcz10_1 : w9.cell? ⟨gb214, 1, none⟩ = some (.slice A0_1 l0_1.length c0_1) := (blk_cell BK214.out 1).trans rfl; have hcz10_2 : w9.cell? ⟨gb214, 2, none⟩ = some (.slice A0_2 l0_2.length c0_2) := (blk_cell BK214.out 2).trans rfl; have hfz10_0 := blk_frozen BK214.out 0; have hfz10_1 := blk_frozen BK214.out 1; have hfz10_2 := blk_frozen BK214.out 2))
  go_loopg [4] k (fun kq v4 w' => ∃ (x4_1 : Int), v4 = .int .i64 x4_1 ∧ Aside0 (cambiumref06_May.l0 kq t218 x4_1 a0_0 l0_1 l0_2 = some r) ∧ Aside0 (kq ≤ k) ∧ Aside0 (w'.heap[gb214]? = some (.cells #[.int .i64 a0_0, (.slice A0_1 l0_1.length c0_1), (.slice A0_2 l0_2.length c0_2)] 25 (0, 0))) ∧ Aside0 (Below w.heap.size w w'))
  case atStart => exact ⟨(0), q14_, H', ⟨Nat.le_refl _⟩, ⟨q126_⟩, ⟨q82_⟩⟩
  case round =>
   clear H'
   try clear c1
   try clear p2
   try clear c3
   try clear c4
   try clear c4b0
   try clear c4b1
   try clear hcz10_0
   try clear hcz10_1
   try clear hcz10_2
   try clear hcz6_0
   try clear hcz6_1
   try clear hcz6_2
   try clear hfz10_0
   try clear hfz10_1
   try clear hfz10_2
   try clear hfz6_0
   try clear hfz6_1
   try clear hfz6_2
   obtain ⟨x4_1, rfl, HA, HK1, BK214, HB⟩ := hrel
   cases gk with
   | zero => exact absurd (show none = some _ from HA.out) (by simp)
   | succ k1 =>
    have H := HA.out
    clear HA
    simp only [cambiumref06_May.l0] at H
    by_cases c11 : x4_1 < (l0_1.length : Int)
    ·rw [if_pos c11] at H
     have c11b0 : decide (x4_1 < (l0_1.length : Int)) = true := decide_eq_true c11
     clear c11
     by_cases c12 : 0 ≤ x4_1
     ·rw [if_pos c12] at H
      have c12b0 : decide (0 ≤ x4_1) = true := decide_eq_true c12
      clear c12
      by_cases c13 : (((rd_T52 l0_1 x4_1).f1).length : Int) > 28
      ·rw [if_pos c13] at H
       have c13b0 : decide (28 < (((rd_T52 l0_1 x4_1).f1).length : Int)) = true := decide_eq_true c13
       have c13b1 : decide (28 < ((rd_T52 l0_1 x4_1).f1).length) = true := decide_eq_true (by omega)
       clear c13
       obtain rfl := Option.some.inj H
       have hcz14_0 : wr.cell? ⟨gb214, 0, none⟩ = some (.int .i64 a0_0) := (blk_cell BK214.out 0).trans rfl
       have hcz14_1 : wr.cell? ⟨gb214, 1, none⟩ = some (.slice A0_1 l0_1.length c0_1) := (blk_cell BK214.out 1).trans rfl
       have hcz14_2 : wr.cell? ⟨gb214, 2, none⟩ = some (.slice A0_2 l0_2.length c0_2) := (blk_cell BK214.out 2).trans rfl
       have hfz14_0 := blk_frozen BK214.out 0
       have hfz14_1 := blk_frozen BK214.out 1
       have hfz14_2 := blk_frozen BK214.out 2
       have p219 : 0 ≤ (x4_1 : Int) := of_decide_eq_true q4_
       have q219 : x4_1 < (l0_1.length : Int) := of_decide_eq_true q4_
       obtain ⟨ad219, A219_3, c219_3, e219, hx219_0, hx219_1, hx219_2, hx219_3, hl219_3, hi219_3⟩ := at_T52 HR0_1.out x4_1 p219 q219
       cases e219
       replace hx219_0 := (HB.out.cell (World.block_lt_of_cell? w _ hx219_0)).trans hx219_0
       replace hx219_1 := (HB.out.cell (World.block_lt_of_cell? w _ hx219_1)).trans hx219_1
       replace hx219_2 := (HB.out.cell (World.block_lt_of_cell? w _ hx219_2)).trans hx219_2
       replace hx219_3 := (HB.out.cell (World.block_lt_of_cell? w _ hx219_3)).trans hx219_3
       have HR219_3 := Aside0.mk hi219_3
       have HC219_3 := Aside0.mk hl219_3
       clear hi219_3 hl219_3
       replace p219 := eq_true p219
       replace q219 := eq_true q219
       go_wp2
       go_ret
       exact ⟨q6_, by repeat (first | (with_reducible first | exact HB.out | apply below_alloc | apply pw_below_drewN | apply below_drew1 | refine below_set ?_ GE214.out) | exact HB.out)⟩
      ·rw [if_neg c13] at H
       have c13b0 : decide (28 < (((rd_T52 l0_1 x4_1).f1).length : Int)) = false := decide_eq_false c13
       have c13b1 : decide (28 < ((rd_T52 l0_1 x4_1).f1).length) = false := decide_eq_false (by omega)
       clear c13
       have H' := Aside0.mk H
       clear H
       have hcz15_0 : wr.cell? ⟨gb214, 0, none⟩ = some (.int .i64 a0_0) := (blk_cell BK214.out 0).trans rfl
       have hcz15_1 : wr.cell? ⟨gb214, 1, none⟩ = some (.slice A0_1 l0_1.length c0_1) := (blk_cell BK214.out 1).trans rfl
       have hcz15_2 : wr.cell? ⟨gb214, 2, none⟩ = some (.slice A0_2 l0_2.length c0_2) := (blk_cell BK214.out 2).trans rfl
       have hfz15_0 := blk_frozen BK214.out 0
       have hfz15_1 := blk_frozen BK214.out 1
       have hfz15_2 := blk_frozen BK214.out 2
       have p219 : 0 ≤ (x4_1 : Int) := of_decide_eq_true q4_
       have q219 : x4_1 < (l0_1.length : Int) := of_decide_eq_true q4_
       obtain ⟨ad219, A219_3, c219_3, e219, hx219_0, hx219_1, hx219_2, hx219_3, hl219_3, hi219_3⟩ := at_T52 HR0_1.out x4_1 p219 q219
       cases e219
       replace hx219_0 := (HB.out.cell (World.block_lt_of_cell? w _ hx219_0)).trans hx219_0
       replace hx219_1 := (HB.out.cell (World.block_lt_of_cell? w _ hx219_1)).trans hx219_1
       replace hx219_2 := (HB.out.cell (World.block_lt_of_cell? w _ hx219_2)).trans hx219_2
       replace hx219_3 := (HB.out.cell (World.block_lt_of_cell? w _ hx219_3)).trans hx219_3
       have HR219_3 := Aside0.mk hi219_3
       have HC219_3 := Aside0.mk hl219_3
       clear hi219_3 hl219_3
       replace p219 := eq_true p219
       replace q219 := eq_true q219
       go_wp2
       go_roundg k1
       case measure => have := HK1.out; omega
       case rel => exact ⟨(wrap64 (x4_1 + 1)), q14_, H', ⟨by have := HK1.out; omega⟩, ⟨q126_⟩, ⟨q82_⟩⟩
     ·rw [if_neg c12] at H
      exact absurd H (by simp)
    ·rw [if_neg c11] at H
     have c11b0 : decide (x4_1 < (l0_1.length : Int)) = false := decide_eq_false c11
     clear c11
     by_cases c16 : t218 = true
     ·subst c16
      have H1 : (if (l0_2.length : Int) = 0 then (if (l0_1.length : Int) ≥ 1 then (some (decide ((l0_1.length : Int) ≤ 6))) else (some false)) else (some false)) = some r := by rw [if_pos rfl] at H; exact H
      clear H
      have H := H1
      clear H1
      by_cases c17 : (l0_2.length : Int) = 0
      ·rw [if_pos c17] at H
       have c17b0 : ((l0_2.length : Int) == 0) = true := beq_iff_eq.mpr c17
       have c17b1 : ((l0_2.length : Int) != 0) = false := bne_eq_false_iff_eq.mpr c17
       clear c17
       by_cases c18 : (l0_1.length : Int) ≥ 1
       ·rw [if_pos c18] at H
        have c18b0 : decide (1 ≤ (l0_1.length : Int)) = true := decide_eq_true c18
        have c18b1 : decide (1 ≤ l0_1.length) = true := decide_eq_true (by omega)
        clear c18
        obtain rfl := Option.some.inj H
        have hcz19_0 : wr.cell? ⟨gb214, 0, none⟩ = some (.int .i64 a0_0) := (blk_cell BK214.out 0).trans rfl
        have hcz19_1 : wr.cell? ⟨gb214, 1, none⟩ = some (.slice A0_1 l0_1.length c0_1) := (blk_cell BK214.out 1).trans rfl
        have hcz19_2 : wr.cell? ⟨gb214, 2, none⟩ = some (.slice A0_2 l0_2.length c0_2) := (blk_cell BK214.out 2).trans rfl
        have hfz19_0 := blk_frozen BK214.out 0
        have hfz19_1 := blk_frozen BK214.out 1
        have hfz19_2 := blk_frozen BK214.out 2
        go_wp2
        go_ret
        exact ⟨q6_, by repeat (first | (with_reducible first | exact HB.out | apply below_alloc | apply pw_below_drewN | apply below_drew1 | refine below_set ?_ GE214.out) | exact HB.out)⟩
       ·rw [if_neg c18] at H
        have c18b0 : decide (1 ≤ (l0_1.length : Int)) = false := decide_eq_false c18
        have c18b1 : decide (1 ≤ l0_1.length) = false := decide_eq_false (by omega)
        clear c18
        obtain rfl := Option.some.inj H
        have hcz20_0 : wr.cell? ⟨gb214, 0, none⟩ = some (.int .i64 a0_0) := (blk_cell BK214.out 0).trans rfl
        have hcz20_1 : wr.cell? ⟨gb214, 1, none⟩ = some (.slice A0_1 l0_1.length c0_1) := (blk_cell BK214.out 1).trans rfl
        have hcz20_2 : wr.cell? ⟨gb214, 2, none⟩ = some (.slice A0_2 l0_2.length c0_2) := (blk_cell BK214.out 2).trans rfl
        have hfz20_0 := blk_frozen BK214.out 0
        have hfz20_1 := blk_frozen BK214.out 1
        have hfz20_2 := blk_frozen BK214.out 2
        go_wp2
        go_ret
        exact ⟨q6_, by repeat (first | (with_reducible first | exact HB.out | apply below_alloc | apply pw_below_drewN | apply below_drew1 | refine below_set ?_ GE214.out) | exact HB.out)⟩
      ·rw [if_neg c17] at H
       have c17b0 : ((l0_2.length : Int) == 0) = false := beq_eq_false_iff_ne.mpr c17
       have c17b1 : ((l0_2.length : Int) != 0) = true := bne_iff_ne.mpr c17
       have c17b2 : ¬ (l0_2 = []) := fun h_ => c17 (by rw [h_]; rfl)
       obtain rfl := Option.some.inj H
       have hcz21_0 : wr.cell? ⟨gb214, 0, none⟩ = some (.int .i64 a0_0) := (blk_cell BK214.out 0).trans rfl
       have hcz21_1 : wr.cell? ⟨gb214, 1, none⟩ = some (.slice A0_1 l0_1.length c0_1) := (blk_cell BK214.out 1).trans rfl
       have hcz21_2 : wr.cell? ⟨gb214, 2, none⟩ = some (.slice A0_2 l0_2.length c0_2) := (blk_cell BK214.out 2).trans rfl
       have hfz21_0 := blk_frozen BK214.out 0
       have hfz21_1 := blk_frozen BK214.out 1
       have hfz21_2 := blk_frozen BK214.out 2
       go_wp2
       go_ret
       exact ⟨q6_, by repeat (first | (with_reducible first | exact HB.out | apply below_alloc | apply pw_below_drewN | apply below_drew1 | refine below_set ?_ GE214.out) | exact HB.out)⟩
     ·replace c16 := Bool.eq_false_iff.mpr c16
      subst c16
      have H1 : (some false) = some r := by rw [if_neg (show ¬ (false = true) by decide)] at H; exact H
      clear H
      have H := H1
      clear H1
      obtain rfl := Option.some.inj H
      have hcz22_0 : wr.cell? ⟨gb214, 0, none⟩ = some (.int .i64 a0_0) := (blk_cell BK214.out 0).trans rfl
      have hcz22_1 : wr.cell? ⟨gb214, 1, none⟩ = some (.slice A0_1 l0_1.length c0_1) := (blk_cell BK214.out 1).trans rfl
      have hcz22_2 : wr.cell? ⟨gb214, 2, none⟩ = some (.slice A0_2 l0_2.length c0_2) := (blk_cell BK214.out 2).trans rfl
      have hfz22_0 := blk_frozen BK214.out 0
      have hfz22_1 := blk_frozen BK214.out 1
      have hfz22_2 := blk_frozen BK214.out 2
      go_wp2
      go_ret
      exact ⟨q6_, by repeat (first | (with_reducible first | exact HB.out | apply below_alloc | apply pw_below_drewN | apply below_drew1 | refine below_set ?_ GE214.out) | exact HB.out)⟩
 ·rw [if_neg c4] at H
  have c4b0 : (a0_0 == 0) = false := beq_eq_false_iff_ne.mpr c4
  have c4b1 : (a0_0 != 0) = true := bne_iff_ne.mpr c4
  have H' := Aside0.mk H
  clear H
  go_enter Try.func12, Try.ntmps12
  go_wp2_with (first | ((with_reducible refine gate_dst (N := 1) rfl ?_); (try (refine gate_guard (by rfl) ?_; dsimp only)); refine box_event ?hg (N := 1) ?hd (cs := #[.int .i64 a0_0, .slice A0_1 l0_1.length c0_1, .slice A0_2 l0_2.length c0_2]) (t := 25) ?hr ?_; (case hd => rfl); (case hg => rfl); (case hr => first | (go_simp; done) | (go_simp; rfl)); intro gb214 hg w23 hbox hb; have n0_ := Aside0.mk (below_step q0_ hb); have n1_ := Aside0.mk (hbox); have n2_ := Aside0.mk ((by rw [hg]; exact (below_size q0_) : w.heap.size ≤ gb214)); have n3_ := Aside0.mk ((by rw [hg]; exact (below_size q0_) : w.heap.size ≤ gb214)); clear HB; have HB := n0_; have BK214 := n1_; have GW214 := n2_; have GE214 := n3_; clear n0_ n1_ n2_ n3_; clear hb hbox hg; have hcz24_0 : w23.cell? ⟨gb214, 0, none⟩ = some (.int .i64 a0_0) := (blk_cell BK214.out 0).trans rfl; have hcz24_1 : w23.cell? ⟨gb214, 1, none⟩ = some (.slice A0_1 l0_1.length c0_1) := (blk_cell BK214.out 1).trans rfl; have hcz24_2 : w23.cell? ⟨gb214, 2, none⟩ = some (.slice A0_2 l0_2.length c0_2) := (blk_cell BK214.out 2).trans rfl; have hfz24_0 := blk_frozen BK214.out 0; have hfz24_1 := blk_frozen BK214.out 1; have hfz24_2 := blk_frozen BK214.out 2) | ((with_reducible refine gate_callee (f := 16) rfl ?_); refine goesL_ (some 7) rfl rfl Try.func16 q8_ rfl #[.agg #[.int .i64 a0_0, .slice A0_1 l0_1.length c0_1, .slice A0_2 l0_2.length c0_2]] rfl q1_ ?_; (with_reducible refine (cambiumref06_Keys.calls k a0_0 _ _ l0_1 _ _ l0_2 t215 _ ?side1 ?side2 ?side3 ?side4 A2.out).mono ?_); (case side1 => repeat (first | exact (Kd.C_below HR0_1.out HB.out) | (with_reducible refine Kd.C_alloc ?_ _) | (with_reducible refine Kd.C_drewN ?_ _) | (with_reducible refine Kd.C_drew ?_))); (case side2 => exact HC0_1.out); (case side3 => repeat (first | exact (Kd.C_below HR0_2.out HB.out) | (with_reducible refine Kd.C_alloc ?_ _) | (with_reducible refine Kd.C_drewN ?_ _) | (with_reducible refine Kd.C_drew ?_))); (case side4 => exact HC0_2.out); rintro e w25 ⟨v216, rfl, ho0, hb⟩; refine ⟨_, rfl, ?_⟩; have n0_ := Aside0.mk (Kd.R_lower ho0 (below_size q82_)); have n1_ := Aside0.mk (blk_below (g := gb214) (o := .cells #[.int .i64 a0_0, .slice A0_1 l0_1.length c0_1, .slice A0_2 l0_2.length c0_2] 25 (0, 0)) q126_ hb); have n2_ := Aside0.mk (below_step q82_ hb); clear BK214; clear HB; have HO217 := n0_; have BK214 := n1_; have HB := n2_; clear n0_ n1_ n2_; (try clear hb); (try clear hb2); (try clear hk); (try clear hi); (try clear ho0); obtain ⟨Ao26, co26, eo26⟩ := Kd.R_slice HO217.out; subst eo26) | ((with_reducible refine gate_callee (f := 31) rfl ?_); refine goesL_ (some 8) rfl rfl Try.func31 q8_ rfl #[.slice Ao26 t215.length co26] rfl q1_ ?_; (with_reducible refine (cambiumref06_may.calls k _ _ t215 t218 _ ?side1 ?side2 A3.out).mono ?_); (case side1 => repeat (first | exact (Kd.R_reads' HO217.out).2.2 | (with_reducible refine Kd.C_alloc ?_ _) | (with_reducible refine Kd.C_drewN ?_ _) | (with_reducible refine Kd.C_drew ?_))); (case side2 => exact (Kd.R_reads' HO217.out).2.1); rintro e w27 ⟨rfl, hb⟩; refine ⟨_, rfl, ?_⟩; have n0_ := Aside0.mk (Kd.R_below (by (with_reducible repeat (first | apply Kd.R_alloc | apply Kd.R_drewN | apply Kd.R_drew)); exact HO217.out) hb); have n1_ := Aside0.mk (blk_below (g := gb214) (o := .cells #[.int .i64 a0_0, .slice A0_1 l0_1.length c0_1, .slice A0_2 l0_2.length c0_2] 25 (0, 0)) q126_ hb); have n2_ := Aside0.mk (below_step q82_ hb); clear HO217; clear BK214; clear HB; have HO217 := n0_; have BK214 := n1_; have HB := n2_; clear n0_ n1_ n2_; (try clear hb); (try clear hb2); (try clear hk); (try clear hi); have hcz28_0 : w27.cell? ⟨gb214, 0, none⟩ = some (.int .i64 a0_0) := (blk_cell BK214.out 0).trans rfl; have hcz28_1 : w27.cell? ⟨gb214, 1, none⟩ = some (.slice A0_1 l0_1.length c0_1) := (blk_cell BK214.out 1).trans rfl; have hcz28_2 : w27.cell? ⟨gb214, 2, none⟩ = some (.slice A0_2 l0_2.length c0_2) := (blk_cell BK214.out 2).trans rfl; have hfz28_0 := blk_frozen BK214.out 0; have hfz28_1 := blk_frozen BK214.out 1; have hfz28_2 := blk_frozen BK214.out 2))
  go_loopg [5] k (fun kq v5 w' => ∃ (x5_1 : Int), v5 = .int .i64 x5_1 ∧ Aside0 (cambiumref06_May.l1 kq t218 x5_1 a0_0 l0_1 l0_2 = some r) ∧ Aside0 (kq ≤ k) ∧ Aside0 (w'.heap[gb214]? = some (.cells #[.int .i64 a0_0, (.slice A0_1 l0_1.length c0_1), (.slice A0_2 l0_2.length c0_2)] 25 (0, 0))) ∧ Aside0 (Below w.heap.size w w'))
  case atStart => exact ⟨(0), q14_, H', ⟨Nat.le_refl _⟩, ⟨q126_⟩, ⟨q82_⟩⟩
  case round =>
   clear H'
   try clear c1
   try clear c2
   try clear p2
   try clear q2
   try clear hx2
   try clear c3
   try clear c4
   try clear c4b0
   try clear c4b1
   try clear p6
   try clear c11
   try clear c11b0
   try clear c12
   try clear c12b0
   try clear c13
   try clear c13b0
   try clear c13b1
   try clear c16
   try clear c17
   try clear c17b0
   try clear c17b1
   try clear c17b2
   try clear c18
   try clear c18b0
   try clear c18b1
   try clear c21
   try clear p21
   try clear q21
   try clear hx21
   try clear hcz10_0
   try clear hcz10_1
   try clear hcz10_2
   try clear hcz14_0
   try clear hcz14_1
   try clear hcz14_2
   try clear hcz15_0
   try clear hcz15_1
   try clear hcz15_2
   try clear hcz19_0
   try clear hcz19_1
   try clear hcz19_2
   try clear hcz20_0
   try clear hcz20_1
   try clear hcz20_2
   try clear hcz21_0
   try clear hcz21_1
   try clear hcz21_2
   try clear hcz22_0
   try clear hcz22_1
   try clear hcz22_2
   try clear hcz24_0
   try clear hcz24_1
   try clear hcz24_2
   try clear hcz28_0
   try clear hcz28_1
   try clear hcz28_2
   try clear hcz6_0
   try clear hcz6_1
   try clear hcz6_2
   try clear hfz10_0
   try clear hfz10_1
   try clear hfz10_2
   try clear hfz14_0
   try clear hfz14_1
   try clear hfz14_2
   try clear hfz15_0
   try clear hfz15_1
   try clear hfz15_2
   try clear hfz19_0
   try clear hfz19_1
   try clear hfz19_2
   try clear hfz20_0
   try clear hfz20_1
   try clear hfz20_2
   try clear hfz21_0
   try clear hfz21_1
   try clear hfz21_2
   try clear hfz22_0
   try clear hfz22_1
   try clear hfz22_2
   try clear hfz24_0
   try clear hfz24_1
   try clear hfz24_2
   try clear hfz28_0
   try clear hfz28_1
   try clear hfz28_2
   try clear hfz6_0
   try clear hfz6_1
   try clear hfz6_2
   try clear hx219_0
   try clear hx219_1
   try clear hx219_2
   try clear hx219_3
   try clear p2
   try clear p219
   try clear q219
   obtain ⟨x5_1, rfl, HA, HK1, BK214, HB⟩ := hrel
   cases gk with
   | zero => exact absurd (show none = some _ from HA.out) (by simp)
   | succ k1 =>
    have H := HA.out
    clear HA
    simp only [cambiumref06_May.l1] at H
    by_cases c29 : x5_1 < (l0_2.length : Int)
    ·rw [if_pos c29] at H
     have c29b0 : decide (x5_1 < (l0_2.length : Int)) = true := decide_eq_true c29
     clear c29
     by_cases c30 : 0 ≤ x5_1
     ·rw [if_pos c30] at H
      have c30b0 : decide (0 ≤ x5_1) = true := decide_eq_true c30
      clear c30
      by_cases c31 : ((rd_T57 l0_2 x5_1).f1) < 1
      ·rw [if_pos c31] at H
       have c31b0 : decide (((rd_T57 l0_2 x5_1).f1) < 1) = true := decide_eq_true c31
       clear c31
       obtain rfl := Option.some.inj H
       have hcz32_0 : wr.cell? ⟨gb214, 0, none⟩ = some (.int .i64 a0_0) := (blk_cell BK214.out 0).trans rfl
       have hcz32_1 : wr.cell? ⟨gb214, 1, none⟩ = some (.slice A0_1 l0_1.length c0_1) := (blk_cell BK214.out 1).trans rfl
       have hcz32_2 : wr.cell? ⟨gb214, 2, none⟩ = some (.slice A0_2 l0_2.length c0_2) := (blk_cell BK214.out 2).trans rfl
       have hfz32_0 := blk_frozen BK214.out 0
       have hfz32_1 := blk_frozen BK214.out 1
       have hfz32_2 := blk_frozen BK214.out 2
       have p220 : 0 ≤ (x5_1 : Int) := of_decide_eq_true q4_
       have q220 : x5_1 < (l0_2.length : Int) := of_decide_eq_true q4_
       obtain ⟨ad220, e220, hx220_0, hx220_1, hx220_2, hx220_3⟩ := at_T57 HR0_2.out x5_1 p220 q220
       cases e220
       replace hx220_0 := (HB.out.cell (World.block_lt_of_cell? w _ hx220_0)).trans hx220_0
       replace hx220_1 := (HB.out.cell (World.block_lt_of_cell? w _ hx220_1)).trans hx220_1
       replace hx220_2 := (HB.out.cell (World.block_lt_of_cell? w _ hx220_2)).trans hx220_2
       replace hx220_3 := (HB.out.cell (World.block_lt_of_cell? w _ hx220_3)).trans hx220_3
       replace p220 := eq_true p220
       replace q220 := eq_true q220
       go_wp2
       go_ret
       exact ⟨q6_, by repeat (first | (with_reducible first | exact HB.out | apply below_alloc | apply pw_below_drewN | apply below_drew1 | refine below_set ?_ GE214.out) | exact HB.out)⟩
      ·rw [if_neg c31] at H
       have c31b0 : decide (((rd_T57 l0_2 x5_1).f1) < 1) = false := decide_eq_false c31
       clear c31
       by_cases c33 : ((rd_T57 l0_2 x5_1).f1) ≥ 2048
       ·rw [if_pos c33] at H
        have c33b0 : decide (2048 ≤ ((rd_T57 l0_2 x5_1).f1)) = true := decide_eq_true c33
        clear c33
        obtain rfl := Option.some.inj H
        have hcz34_0 : wr.cell? ⟨gb214, 0, none⟩ = some (.int .i64 a0_0) := (blk_cell BK214.out 0).trans rfl
        have hcz34_1 : wr.cell? ⟨gb214, 1, none⟩ = some (.slice A0_1 l0_1.length c0_1) := (blk_cell BK214.out 1).trans rfl
        have hcz34_2 : wr.cell? ⟨gb214, 2, none⟩ = some (.slice A0_2 l0_2.length c0_2) := (blk_cell BK214.out 2).trans rfl
        have hfz34_0 := blk_frozen BK214.out 0
        have hfz34_1 := blk_frozen BK214.out 1
        have hfz34_2 := blk_frozen BK214.out 2
        have p220 : 0 ≤ (x5_1 : Int) := of_decide_eq_true q4_
        have q220 : x5_1 < (l0_2.length : Int) := of_decide_eq_true q4_
        obtain ⟨ad220, e220, hx220_0, hx220_1, hx220_2, hx220_3⟩ := at_T57 HR0_2.out x5_1 p220 q220
        cases e220
        replace hx220_0 := (HB.out.cell (World.block_lt_of_cell? w _ hx220_0)).trans hx220_0
        replace hx220_1 := (HB.out.cell (World.block_lt_of_cell? w _ hx220_1)).trans hx220_1
        replace hx220_2 := (HB.out.cell (World.block_lt_of_cell? w _ hx220_2)).trans hx220_2
        replace hx220_3 := (HB.out.cell (World.block_lt_of_cell? w _ hx220_3)).trans hx220_3
        replace p220 := eq_true p220
        replace q220 := eq_true q220
        have p221 : 0 ≤ (x5_1 : Int) := of_decide_eq_true q4_
        have q221 : x5_1 < (l0_2.length : Int) := of_decide_eq_true q4_
        obtain ⟨ad221, e221, hx221_0, hx221_1, hx221_2, hx221_3⟩ := at_T57 HR0_2.out x5_1 p221 q221
        obtain rfl : ad220 = ad221 := (by injection e221)
        replace hx221_0 := (HB.out.cell (World.block_lt_of_cell? w _ hx221_0)).trans hx221_0
        replace hx221_1 := (HB.out.cell (World.block_lt_of_cell? w _ hx221_1)).trans hx221_1
        replace hx221_2 := (HB.out.cell (World.block_lt_of_cell? w _ hx221_2)).trans hx221_2
        replace hx221_3 := (HB.out.cell (World.block_lt_of_cell? w _ hx221_3)).trans hx221_3
        replace p221 := eq_true p221
        replace q221 := eq_true q221
        go_wp2
        go_ret
        exact ⟨q6_, by repeat (first | (with_reducible first | exact HB.out | apply below_alloc | apply pw_below_drewN | apply below_drew1 | refine below_set ?_ GE214.out) | exact HB.out)⟩
       ·rw [if_neg c33] at H
        have c33b0 : decide (2048 ≤ ((rd_T57 l0_2 x5_1).f1)) = false := decide_eq_false c33
        clear c33
        have H' := Aside0.mk H
        clear H
        have hcz35_0 : wr.cell? ⟨gb214, 0, none⟩ = some (.int .i64 a0_0) := (blk_cell BK214.out 0).trans rfl
        have hcz35_1 : wr.cell? ⟨gb214, 1, none⟩ = some (.slice A0_1 l0_1.length c0_1) := (blk_cell BK214.out 1).trans rfl
        have hcz35_2 : wr.cell? ⟨gb214, 2, none⟩ = some (.slice A0_2 l0_2.length c0_2) := (blk_cell BK214.out 2).trans rfl
        have hfz35_0 := blk_frozen BK214.out 0
        have hfz35_1 := blk_frozen BK214.out 1
        have hfz35_2 := blk_frozen BK214.out 2
        have p220 : 0 ≤ (x5_1 : Int) := of_decide_eq_true q4_
        have q220 : x5_1 < (l0_2.length : Int) := of_decide_eq_true q4_
        obtain ⟨ad220, e220, hx220_0, hx220_1, hx220_2, hx220_3⟩ := at_T57 HR0_2.out x5_1 p220 q220
        cases e220
        replace hx220_0 := (HB.out.cell (World.block_lt_of_cell? w _ hx220_0)).trans hx220_0
        replace hx220_1 := (HB.out.cell (World.block_lt_of_cell? w _ hx220_1)).trans hx220_1
        replace hx220_2 := (HB.out.cell (World.block_lt_of_cell? w _ hx220_2)).trans hx220_2
        replace hx220_3 := (HB.out.cell (World.block_lt_of_cell? w _ hx220_3)).trans hx220_3
        replace p220 := eq_true p220
        replace q220 := eq_true q220
        have p221 : 0 ≤ (x5_1 : Int) := of_decide_eq_true q4_
        have q221 : x5_1 < (l0_2.length : Int) := of_decide_eq_true q4_
        obtain ⟨ad221, e221, hx221_0, hx221_1, hx221_2, hx221_3⟩ := at_T57 HR0_2.out x5_1 p221 q221
        obtain rfl : ad220 = ad221 := (by injection e221)
        replace hx221_0 := (HB.out.cell (World.block_lt_of_cell? w _ hx221_0)).trans hx221_0
        replace hx221_1 := (HB.out.cell (World.block_lt_of_cell? w _ hx221_1)).trans hx221_1
        replace hx221_2 := (HB.out.cell (World.block_lt_of_cell? w _ hx221_2)).trans hx221_2
        replace hx221_3 := (HB.out.cell (World.block_lt_of_cell? w _ hx221_3)).trans hx221_3
        replace p221 := eq_true p221
        replace q221 := eq_true q221
        go_wp2
        go_roundg k1
        case measure => have := HK1.out; omega
        case rel => exact ⟨(wrap64 (x5_1 + 1)), q14_, H', ⟨by have := HK1.out; omega⟩, ⟨q126_⟩, ⟨q82_⟩⟩
     ·rw [if_neg c30] at H
      exact absurd H (by simp)
    ·rw [if_neg c29] at H
     have c29b0 : decide (x5_1 < (l0_2.length : Int)) = false := decide_eq_false c29
     clear c29
     by_cases c36 : t218 = true
     ·subst c36
      have H1 : (if a0_0 ≥ 1 then (if a0_0 < 8 then (if (l0_1.length : Int) = 0 then (if (l0_2.length : Int) ≥ 2 then (some (decide ((l0_2.length : Int) ≤ 12))) else (some false)) else (some false)) else (some false)) else (some false)) = some r := by rw [if_pos rfl] at H; exact H
      clear H
      have H := H1
      clear H1
      by_cases c37 : a0_0 ≥ 1
      ·rw [if_pos c37] at H
       have c37b0 : decide (1 ≤ a0_0) = true := decide_eq_true c37
       clear c37
       by_cases c38 : a0_0 < 8
       ·rw [if_pos c38] at H
        have c38b0 : decide (a0_0 < 8) = true := decide_eq_true c38
        clear c38
        by_cases c39 : (l0_1.length : Int) = 0
        ·rw [if_pos c39] at H
         have c39b0 : ((l0_1.length : Int) == 0) = true := beq_iff_eq.mpr c39
         have c39b1 : ((l0_1.length : Int) != 0) = false := bne_eq_false_iff_eq.mpr c39
         clear c39
         by_cases c40 : (l0_2.length : Int) ≥ 2
         ·rw [if_pos c40] at H
          have c40b0 : decide (2 ≤ (l0_2.length : Int)) = true := decide_eq_true c40
          have c40b1 : decide (2 ≤ l0_2.length) = true := decide_eq_true (by omega)
          clear c40
          obtain rfl := Option.some.inj H
          have hcz41_0 : wr.cell? ⟨gb214, 0, none⟩ = some (.int .i64 a0_0) := (blk_cell BK214.out 0).trans rfl
          have hcz41_1 : wr.cell? ⟨gb214, 1, none⟩ = some (.slice A0_1 l0_1.length c0_1) := (blk_cell BK214.out 1).trans rfl
          have hcz41_2 : wr.cell? ⟨gb214, 2, none⟩ = some (.slice A0_2 l0_2.length c0_2) := (blk_cell BK214.out 2).trans rfl
          have hfz41_0 := blk_frozen BK214.out 0
          have hfz41_1 := blk_frozen BK214.out 1
          have hfz41_2 := blk_frozen BK214.out 2
          go_wp2
          go_ret
          exact ⟨q6_, by repeat (first | (with_reducible first | exact HB.out | apply below_alloc | apply pw_below_drewN | apply below_drew1 | refine below_set ?_ GE214.out) | exact HB.out)⟩
         ·rw [if_neg c40] at H
          have c40b0 : decide (2 ≤ (l0_2.length : Int)) = false := decide_eq_false c40
          have c40b1 : decide (2 ≤ l0_2.length) = false := decide_eq_false (by omega)
          clear c40
          obtain rfl := Option.some.inj H
          have hcz42_0 : wr.cell? ⟨gb214, 0, none⟩ = some (.int .i64 a0_0) := (blk_cell BK214.out 0).trans rfl
          have hcz42_1 : wr.cell? ⟨gb214, 1, none⟩ = some (.slice A0_1 l0_1.length c0_1) := (blk_cell BK214.out 1).trans rfl
          have hcz42_2 : wr.cell? ⟨gb214, 2, none⟩ = some (.slice A0_2 l0_2.length c0_2) := (blk_cell BK214.out 2).trans rfl
          have hfz42_0 := blk_frozen BK214.out 0
          have hfz42_1 := blk_frozen BK214.out 1
          have hfz42_2 := blk_frozen BK214.out 2
          go_wp2
          go_ret
          exact ⟨q6_, by repeat (first | (with_reducible first | exact HB.out | apply below_alloc | apply pw_below_drewN | apply below_drew1 | refine below_set ?_ GE214.out) | exact HB.out)⟩
        ·rw [if_neg c39] at H
         have c39b0 : ((l0_1.length : Int) == 0) = false := beq_eq_false_iff_ne.mpr c39
         have c39b1 : ((l0_1.length : Int) != 0) = true := bne_iff_ne.mpr c39
         have c39b2 : ¬ (l0_1 = []) := fun h_ => c39 (by rw [h_]; rfl)
         obtain rfl := Option.some.inj H
         have hcz43_0 : wr.cell? ⟨gb214, 0, none⟩ = some (.int .i64 a0_0) := (blk_cell BK214.out 0).trans rfl
         have hcz43_1 : wr.cell? ⟨gb214, 1, none⟩ = some (.slice A0_1 l0_1.length c0_1) := (blk_cell BK214.out 1).trans rfl
         have hcz43_2 : wr.cell? ⟨gb214, 2, none⟩ = some (.slice A0_2 l0_2.length c0_2) := (blk_cell BK214.out 2).trans rfl
         have hfz43_0 := blk_frozen BK214.out 0
         have hfz43_1 := blk_frozen BK214.out 1
         have hfz43_2 := blk_frozen BK214.out 2
         go_wp2
         go_ret
         exact ⟨q6_, by repeat (first | (with_reducible first | exact HB.out | apply below_alloc | apply pw_below_drewN | apply below_drew1 | refine below_set ?_ GE214.out) | exact HB.out)⟩
       ·rw [if_neg c38] at H
        have c38b0 : decide (a0_0 < 8) = false := decide_eq_false c38
        clear c38
        obtain rfl := Option.some.inj H
        have hcz44_0 : wr.cell? ⟨gb214, 0, none⟩ = some (.int .i64 a0_0) := (blk_cell BK214.out 0).trans rfl
        have hcz44_1 : wr.cell? ⟨gb214, 1, none⟩ = some (.slice A0_1 l0_1.length c0_1) := (blk_cell BK214.out 1).trans rfl
        have hcz44_2 : wr.cell? ⟨gb214, 2, none⟩ = some (.slice A0_2 l0_2.length c0_2) := (blk_cell BK214.out 2).trans rfl
        have hfz44_0 := blk_frozen BK214.out 0
        have hfz44_1 := blk_frozen BK214.out 1
        have hfz44_2 := blk_frozen BK214.out 2
        go_wp2
        go_ret
        exact ⟨q6_, by repeat (first | (with_reducible first | exact HB.out | apply below_alloc | apply pw_below_drewN | apply below_drew1 | refine below_set ?_ GE214.out) | exact HB.out)⟩
      ·rw [if_neg c37] at H
       have c37b0 : decide (1 ≤ a0_0) = false := decide_eq_false c37
       clear c37
       obtain rfl := Option.some.inj H
       have hcz45_0 : wr.cell? ⟨gb214, 0, none⟩ = some (.int .i64 a0_0) := (blk_cell BK214.out 0).trans rfl
       have hcz45_1 : wr.cell? ⟨gb214, 1, none⟩ = some (.slice A0_1 l0_1.length c0_1) := (blk_cell BK214.out 1).trans rfl
       have hcz45_2 : wr.cell? ⟨gb214, 2, none⟩ = some (.slice A0_2 l0_2.length c0_2) := (blk_cell BK214.out 2).trans rfl
       have hfz45_0 := blk_frozen BK214.out 0
       have hfz45_1 := blk_frozen BK214.out 1
       have hfz45_2 := blk_frozen BK214.out 2
       go_wp2
       go_ret
       exact ⟨q6_, by repeat (first | (with_reducible first | exact HB.out | apply below_alloc | apply pw_below_drewN | apply below_drew1 | refine below_set ?_ GE214.out) | exact HB.out)⟩
     ·replace c36 := Bool.eq_false_iff.mpr c36
      subst c36
      have H1 : (some false) = some r := by rw [if_neg (show ¬ (false = true) by decide)] at H; exact H
      clear H
      have H := H1
      clear H1
      obtain rfl := Option.some.inj H
      have hcz46_0 : wr.cell? ⟨gb214, 0, none⟩ = some (.int .i64 a0_0) := (blk_cell BK214.out 0).trans rfl
      have hcz46_1 : wr.cell? ⟨gb214, 1, none⟩ = some (.slice A0_1 l0_1.length c0_1) := (blk_cell BK214.out 1).trans rfl
      have hcz46_2 : wr.cell? ⟨gb214, 2, none⟩ = some (.slice A0_2 l0_2.length c0_2) := (blk_cell BK214.out 2).trans rfl
      have hfz46_0 := blk_frozen BK214.out 0
      have hfz46_1 := blk_frozen BK214.out 1
      have hfz46_2 := blk_frozen BK214.out 2
      go_wp2
      go_ret
      exact ⟨q6_, by repeat (first | (with_reducible first | exact HB.out | apply below_alloc | apply pw_below_drewN | apply below_drew1 | refine below_set ?_ GE214.out) | exact HB.out)⟩

end Go.Proofs.Ytcjnknpbikfimaa.P
