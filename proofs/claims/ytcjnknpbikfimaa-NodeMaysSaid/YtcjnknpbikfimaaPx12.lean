/- Functions and contracts, written by a program (mkprint.py, a wrapper of ours around the print); texts between GIVEN marks are ours. -/
import Derived.Test.YtcjnknpbikfimaaPx0
import Derived.Test.YtcjnknpbikfimaaPx7
import Derived.Test.YtcjnknpbikfimaaPx10
import Derived.Test.YtcjnknpbikfimaaPx11
namespace Go.Proofs.Ytcjnknpbikfimaa.P
open Go.RowKit Go.Proofs.YtcjnknpbikfimaaW.PrintWords Go.Proofs.YtcjnknpbikfimaaW.PrintLast Go.Proofs.YtcjnknpbikfimaaW.PrintMore
attribute [local go_sem] max2_int min2_int max_two min_two max_three min_three max_four min_four   -- for this text's walks alone
set_option linter.unusedVariables false
set_option linter.unusedSimpArgs false

/-! ### cambiumref06_May: function 12 -/
mutual
def cambiumref06_May.l0 : Nat → Bool → Int → Int → List (S52) → List (S57) → Option (Bool)
  | 0, _, _, _, _, _ => none
  | k + 1, x3, x4, x243000, x243001, x243002 => if x4 < (x243001.length : Int) then (if 0 ≤ x4 then (if (((rd_T52 x243001 x4).f1).length : Int) > 28 then (some false) else (cambiumref06_May.l0 k x3 (wrap64 (x4 + 1)) x243000 x243001 x243002)) else (none)) else (if x3 = true then (if (x243002.length : Int) = 0 then (if (x243001.length : Int) ≥ 1 then (some (decide ((x243001.length : Int) ≤ 6))) else (some false)) else (some false)) else (some false))
def cambiumref06_May.l1 : Nat → Bool → Int → Int → List (S52) → List (S57) → Option (Bool)
  | 0, _, _, _, _, _ => none
  | k + 1, x3, x5, x243000, x243001, x243002 => if x5 < (x243002.length : Int) then (if 0 ≤ x5 then (if ((rd_T57 x243002 x5).f1) < 1 then (some false) else (if ((rd_T57 x243002 x5).f1) ≥ 2048 then (some false) else (cambiumref06_May.l1 k x3 (wrap64 (x5 + 1)) x243000 x243001 x243002))) else (none)) else (if x3 = true then (if x243000 ≥ 1 then (if x243000 < 8 then (if (x243001.length : Int) = 0 then (if (x243002.length : Int) ≥ 2 then (some (decide ((x243002.length : Int) ≤ 12))) else (some false)) else (some false)) else (some false)) else (some false)) else (some false))
end
def cambiumref06_May.f (k : Nat) (a0_0 : Int) (l0_1 : List (S52)) (l0_2 : List (S57)) : Option (Bool) := (cambiumref06_Keys.f k a0_0 l0_1 l0_2).bind fun t243 => ((cambiumref06_may.f k t243).bind fun t246 => (if a0_0 = 0 then (cambiumref06_May.l0 k t246 0 a0_0 l0_1 l0_2) else (cambiumref06_May.l1 k t246 0 a0_0 l0_1 l0_2)))
theorem cambiumref06_May.mono_l : ∀ k, (∀ y0 y1 y2 y3 y4, LeO (cambiumref06_May.l0 k y0 y1 y2 y3 y4) (cambiumref06_May.l0 (k + 1) y0 y1 y2 y3 y4)) ∧ (∀ y0 y1 y2 y3 y4, LeO (cambiumref06_May.l1 k y0 y1 y2 y3 y4) (cambiumref06_May.l1 (k + 1) y0 y1 y2 y3 y4))
  | 0 => ⟨fun _ _ _ _ _ r h => by simp [cambiumref06_May.l0] at h, fun _ _ _ _ _ r h => by simp [cambiumref06_May.l1] at h⟩
  | k + 1 => by
    obtain ⟨ih0, ih1⟩ := cambiumref06_May.mono_l k
    refine ⟨?_, ?_⟩
    · intro y0 y1 y2 y3 y4
      unfold cambiumref06_May.l0
      repeat' first
      | (with_reducible exact ih0 _ _ _ _ _)
      | (with_reducible exact ih1 _ _ _ _ _)
      | (with_reducible exact cambiumref06_Keys.mono _ _ _ _)
      | (with_reducible exact cambiumref06_may.mono _ _)
      | (with_reducible exact LeO.refl _)
      | (with_reducible exact LeO.none _)
      | (with_reducible refine LeO.ite ?_ ?_)
      | (with_reducible refine LeO.bind ?_ (fun _ => ?_))
      | exact ih0 _ _ _ _ _
      | exact ih1 _ _ _ _ _
      | exact cambiumref06_Keys.mono _ _ _ _
      | exact cambiumref06_may.mono _ _
      | exact LeO.none _
      | refine LeO.ite ?_ ?_
      | refine LeO.bind ?_ (fun _ => ?_)
    · intro y0 y1 y2 y3 y4
      unfold cambiumref06_May.l1
      repeat' first
      | (with_reducible exact ih0 _ _ _ _ _)
      | (with_reducible exact ih1 _ _ _ _ _)
      | (with_reducible exact cambiumref06_Keys.mono _ _ _ _)
      | (with_reducible exact cambiumref06_may.mono _ _)
      | (with_reducible exact LeO.refl _)
      | (with_reducible exact LeO.none _)
      | (with_reducible refine LeO.ite ?_ ?_)
      | (with_reducible refine LeO.bind ?_ (fun _ => ?_))
      | exact ih0 _ _ _ _ _
      | exact ih1 _ _ _ _ _
      | exact cambiumref06_Keys.mono _ _ _ _
      | exact cambiumref06_may.mono _ _
      | exact LeO.none _
      | refine LeO.ite ?_ ?_
      | refine LeO.bind ?_ (fun _ => ?_)
theorem cambiumref06_May.mono : ∀ a0 a1 a2 k, LeO (cambiumref06_May.f k a0 a1 a2) (cambiumref06_May.f (k + 1) a0 a1 a2) := by
  intro a0 a1 a2 k
  obtain ⟨ih0, ih1⟩ := cambiumref06_May.mono_l k
  unfold cambiumref06_May.f
  repeat' first
      | (with_reducible exact ih0 _ _ _ _ _)
      | (with_reducible exact ih1 _ _ _ _ _)
      | (with_reducible exact cambiumref06_Keys.mono _ _ _ _)
      | (with_reducible exact cambiumref06_may.mono _ _)
      | (with_reducible exact LeO.refl _)
      | (with_reducible exact LeO.none _)
      | (with_reducible refine LeO.ite ?_ ?_)
      | (with_reducible refine LeO.bind ?_ (fun _ => ?_))
      | exact ih0 _ _ _ _ _
      | exact ih1 _ _ _ _ _
      | exact cambiumref06_Keys.mono _ _ _ _
      | exact cambiumref06_may.mono _ _
      | exact LeO.none _
      | refine LeO.ite ?_ ?_
      | refine LeO.bind ?_ (fun _ => ?_)
set_option maxHeartbeats 8000000 in
set_option maxRecDepth 100000 in
theorem cambiumref06_May.calls (k : Nat) (a0_0 : Int) (A0_1 : Option Addr) (c0_1 : Nat) (l0_1 : List (S52)) (A0_2 : Option Addr) (c0_2 : Nat) (l0_2 : List (S57)) (r : Bool) (w : World) (hr0_1 : Kd.C k52 w A0_1 l0_1.length l0_1) (hc0_1 : l0_1.length ≤ c0_1) (hr0_2 : Kd.C k57 w A0_2 l0_2.length l0_2) (hc0_2 : l0_2.length ≤ c0_2) (h : cambiumref06_May.f k a0_0 l0_1 l0_2 = some r) :
    Calls Try.prog 12 #[.agg #[.int .i64 a0_0, .slice A0_1 l0_1.length c0_1, .slice A0_2 l0_2.length c0_2]] w fun e w' => e = .returned (.bool r) ∧ Below w.heap.size w w' := by
  have hu25 := Try.underlying25
  have HR0_1 := Aside0.mk hr0_1
  have HC0_1 := Aside0.mk hc0_1
  clear hr0_1 hc0_1
  have HR0_2 := Aside0.mk hr0_2
  have HC0_2 := Aside0.mk hc0_2
  clear hr0_2 hc0_2
  have HB := Aside0.mk (Below.refl w.heap.size w)
  have H : ((cambiumref06_Keys.f k a0_0 l0_1 l0_2).bind fun t243 => ((cambiumref06_may.f k t243).bind fun t246 => (if a0_0 = 0 then (cambiumref06_May.l0 k t246 0 a0_0 l0_1 l0_2) else (cambiumref06_May.l1 k t246 0 a0_0 l0_1 l0_2)))) = some r := h
  clear h
  replace H := Option.bind_eq_some_iff.mp H
  obtain ⟨t243, A20, H⟩ := H
  replace H : ((cambiumref06_may.f k t243).bind fun t246 => (if a0_0 = 0 then (cambiumref06_May.l0 k t246 0 a0_0 l0_1 l0_2) else (cambiumref06_May.l1 k t246 0 a0_0 l0_1 l0_2))) = some r := H
  have A2 := Aside0.mk A20
  clear A20
  replace H := Option.bind_eq_some_iff.mp H
  obtain ⟨t246, A30, H⟩ := H
  replace H : (if a0_0 = 0 then (cambiumref06_May.l0 k t246 0 a0_0 l0_1 l0_2) else (cambiumref06_May.l1 k t246 0 a0_0 l0_1 l0_2)) = some r := H
  have A3 := Aside0.mk A30
  clear A30
  by_cases c4 : a0_0 = 0
  · rw [if_pos c4] at H
    have c4b0 : (a0_0 == 0) = true := beq_iff_eq.mpr c4
    have c4b1 : (a0_0 != 0) = false := bne_eq_false_iff_eq.mpr c4
    clear c4
    have H' := Aside0.mk H
    clear H
    go_enter Try.func12, Try.ntmps12
    go_wp2_with (first | ((with_reducible refine gate_dst (N := 1) rfl ?_); (try (refine gate_guard (by rfl) ?_; dsimp only)); refine box_event ?hg (N := 1) ?hd (cs := #[.int .i64 a0_0, .slice A0_1 l0_1.length c0_1, .slice A0_2 l0_2.length c0_2]) (t := 25) ?hr ?_; (case hd => rfl); (case hg => rfl); (case hr => first | (go_simp; done) | (go_simp; rfl)); intro gb242 hg w5 hbox hb; have n0_ := Aside0.mk (below_step (by repeat (first | (with_reducible first | exact HB.out | apply below_alloc | apply pw_below_drewN | apply below_drew1) | exact HB.out)) hb); have n1_ := Aside0.mk (hbox); have n2_ := Aside0.mk ((by rw [hg]; exact (below_size (by repeat (first | (with_reducible first | exact HB.out | apply below_alloc | apply pw_below_drewN | apply below_drew1) | exact HB.out))) : w.heap.size ≤ gb242)); have n3_ := Aside0.mk ((by rw [hg]; exact (below_size (by repeat (first | (with_reducible first | exact HB.out | apply below_alloc | apply pw_below_drewN | apply below_drew1) | exact HB.out))) : w.heap.size ≤ gb242)); clear HB; have HB := n0_; have BK242 := n1_; have GW242 := n2_; have GE242 := n3_; clear n0_ n1_ n2_ n3_; clear hb hbox hg; have hcz6_0 : w5.cell? ⟨gb242, 0, none⟩ = some (.int .i64 a0_0) := (blk_cell BK242.out 0).trans rfl; have hcz6_1 : w5.cell? ⟨gb242, 1, none⟩ = some (.slice A0_1 l0_1.length c0_1) := (blk_cell BK242.out 1).trans rfl; have hcz6_2 : w5.cell? ⟨gb242, 2, none⟩ = some (.slice A0_2 l0_2.length c0_2) := (blk_cell BK242.out 2).trans rfl; have hfz6_0 := blk_frozen BK242.out 0; have hfz6_1 := blk_frozen BK242.out 1; have hfz6_2 := blk_frozen BK242.out 2) | ((with_reducible refine gate_callee (f := 16) rfl ?_); refine goesL_ (some 7) rfl rfl Try.func16 (by kernel_rfl) rfl #[.agg #[.int .i64 a0_0, .slice A0_1 l0_1.length c0_1, .slice A0_2 l0_2.length c0_2]] rfl (by (try simp only [List.map_toArray, List.map_cons, List.map_nil]); first | done | rfl | (simp only [List.length_drop, List.length_take]; rfl)) ?_; (with_reducible refine (cambiumref06_Keys.calls k a0_0 _ _ l0_1 _ _ l0_2 t243 _ ?side1 ?side2 ?side3 ?side4 A2.out).mono ?_); (case side1 => repeat (first | exact (Kd.C_below HR0_1.out HB.out) | (with_reducible refine Kd.C_alloc ?_ _) | (with_reducible refine Kd.C_drewN ?_ _) | (with_reducible refine Kd.C_drew ?_))); (case side2 => exact HC0_1.out); (case side3 => repeat (first | exact (Kd.C_below HR0_2.out HB.out) | (with_reducible refine Kd.C_alloc ?_ _) | (with_reducible refine Kd.C_drewN ?_ _) | (with_reducible refine Kd.C_drew ?_))); (case side4 => exact HC0_2.out); rintro e w7 ⟨v244, rfl, ho0, hb⟩; refine ⟨_, rfl, ?_⟩; have n0_ := Aside0.mk (Kd.R_lower ho0 (below_size (by repeat (first | (with_reducible first | exact HB.out | apply below_alloc | apply pw_below_drewN | apply below_drew1 | refine below_set ?_ GE242.out) | exact HB.out)))); have n1_ := Aside0.mk (blk_below (g := gb242) (o := .cells #[.int .i64 a0_0, .slice A0_1 l0_1.length c0_1, .slice A0_2 l0_2.length c0_2] 25 (0, 0)) (by (with_reducible repeat (first | refine blk_drewN ?_ _ | refine blk_drew ?_ | refine blk_alloc ?_ _)); exact BK242.out) hb); have n2_ := Aside0.mk (below_step (by repeat (first | (with_reducible first | exact HB.out | apply below_alloc | apply pw_below_drewN | apply below_drew1 | refine below_set ?_ GE242.out) | exact HB.out)) hb); clear BK242; clear HB; have HO245 := n0_; have BK242 := n1_; have HB := n2_; clear n0_ n1_ n2_; (try clear hb); (try clear hb2); (try clear hk); (try clear hi); (try clear ho0); obtain ⟨Ao8, co8, eo8⟩ := Kd.R_slice HO245.out; subst eo8) | ((with_reducible refine gate_callee (f := 31) rfl ?_); refine goesL_ (some 8) rfl rfl Try.func31 (by kernel_rfl) rfl #[.slice Ao8 t243.length co8] rfl (by (try simp only [List.map_toArray, List.map_cons, List.map_nil]); first | done | rfl | (simp only [List.length_drop, List.length_take]; rfl)) ?_; (with_reducible refine (cambiumref06_may.calls k _ _ t243 t246 _ ?side1 ?side2 A3.out).mono ?_); (case side1 => repeat (first | exact (Kd.R_reads' HO245.out).2.2 | (with_reducible refine Kd.C_alloc ?_ _) | (with_reducible refine Kd.C_drewN ?_ _) | (with_reducible refine Kd.C_drew ?_))); (case side2 => exact (Kd.R_reads' HO245.out).2.1); rintro e w9 ⟨rfl, hb⟩; refine ⟨_, rfl, ?_⟩; have n0_ := Aside0.mk (Kd.R_below (by (with_reducible repeat (first | apply Kd.R_alloc | apply Kd.R_drewN | apply Kd.R_drew)); exact HO245.out) hb); have n1_ := Aside0.mk (blk_below (g := gb242) (o := .cells #[.int .i64 a0_0, .slice A0_1 l0_1.length c0_1, .slice A0_2 l0_2.length c0_2] 25 (0, 0)) (by (with_reducible repeat (first | refine blk_drewN ?_ _ | refine blk_drew ?_ | refine blk_alloc ?_ _)); exact BK242.out) hb); have n2_ := Aside0.mk (below_step (by repeat (first | (with_reducible first | exact HB.out | apply below_alloc | apply pw_below_drewN | apply below_drew1 | refine below_set ?_ GE242.out) | exact HB.out)) hb); clear HO245; clear BK242; clear HB; have HO245 := n0_; have BK242 := n1_; have HB := n2_; clear n0_ n1_ n2_; (try clear hb); (try clear hb2); (try clear hk); (try clear hi); have hcz10_0 : w9.cell? ⟨gb242, 0, none⟩ = some (.int .i64 a0_0) := (blk_cell BK242.out 0).trans rfl; have hcz10_1 : w9.cell? ⟨gb242, 1, none⟩ = some (.slice A0_1 l0_1.length c0_1) := (blk_cell BK242.out 1).trans rfl; have hcz10_2 : w9.cell? ⟨gb242, 2, none⟩ = some (.slice A0_2 l0_2.length c0_2) := (blk_cell BK242.out 2).trans rfl; have hfz10_0 := blk_frozen BK242.out 0; have hfz10_1 := blk_frozen BK242.out 1; have hfz10_2 := blk_frozen BK242.out 2))
    go_loopg [4] k (fun kq v4 w' => ∃ (x4_1 : Int), v4 = .int .i64 x4_1 ∧ Aside0 (cambiumref06_May.l0 kq t246 x4_1 a0_0 l0_1 l0_2 = some r) ∧ Aside0 (kq ≤ k) ∧ Aside0 (w'.heap[gb242]? = some (.cells #[.int .i64 a0_0, (.slice A0_1 l0_1.length c0_1), (.slice A0_2 l0_2.length c0_2)] 25 (0, 0))) ∧ Aside0 (Below w.heap.size w w'))
    case atStart => exact ⟨(0), (by first | rfl | (simp; done) | (simp [*]; done)), H', ⟨Nat.le_refl _⟩, ⟨by (with_reducible repeat (first | refine blk_drewN ?_ _ | refine blk_drew ?_ | refine blk_alloc ?_ _)); exact BK242.out⟩, ⟨by repeat (first | (with_reducible first | exact HB.out | apply below_alloc | apply pw_below_drewN | apply below_drew1 | refine below_set ?_ GE242.out) | exact HB.out)⟩⟩
    case round =>
      clear H'
      try clear c1
      try clear p2
      try clear c3
      try clear c4
      try clear c4b0
      try clear c4b1
      try clear hcz10_0
      try clear hcz10_1
      try clear hcz10_2
      try clear hcz6_0
      try clear hcz6_1
      try clear hcz6_2
      try clear hfz10_0
      try clear hfz10_1
      try clear hfz10_2
      try clear hfz6_0
      try clear hfz6_1
      try clear hfz6_2
      obtain ⟨x4_1, rfl, HA, HK1, BK242, HB⟩ := hrel
      cases gk with
      | zero => exact absurd (show none = some _ from HA.out) (by simp)
      | succ k1 =>
        have H := HA.out
        clear HA
        simp only [cambiumref06_May.l0] at H
        by_cases c11 : x4_1 < (l0_1.length : Int)
        · rw [if_pos c11] at H
          have c11b0 : decide (x4_1 < (l0_1.length : Int)) = true := decide_eq_true c11
          clear c11
          by_cases c12 : 0 ≤ x4_1
          · rw [if_pos c12] at H
            have c12b0 : decide (0 ≤ x4_1) = true := decide_eq_true c12
            clear c12
            by_cases c13 : (((rd_T52 l0_1 x4_1).f1).length : Int) > 28
            · rw [if_pos c13] at H
              have c13b0 : decide (28 < (((rd_T52 l0_1 x4_1).f1).length : Int)) = true := decide_eq_true c13
              have c13b1 : decide (28 < ((rd_T52 l0_1 x4_1).f1).length) = true := decide_eq_true (by omega)
              clear c13
              obtain rfl := Option.some.inj H
              have hcz14_0 : wr.cell? ⟨gb242, 0, none⟩ = some (.int .i64 a0_0) := (blk_cell BK242.out 0).trans rfl
              have hcz14_1 : wr.cell? ⟨gb242, 1, none⟩ = some (.slice A0_1 l0_1.length c0_1) := (blk_cell BK242.out 1).trans rfl
              have hcz14_2 : wr.cell? ⟨gb242, 2, none⟩ = some (.slice A0_2 l0_2.length c0_2) := (blk_cell BK242.out 2).trans rfl
              have hfz14_0 := blk_frozen BK242.out 0
              have hfz14_1 := blk_frozen BK242.out 1
              have hfz14_2 := blk_frozen BK242.out 2
              have p247 : 0 ≤ (x4_1 : Int) := of_decide_eq_true (by first | (with_reducible assumption) | assumption)
              have q247 : x4_1 < (l0_1.length : Int) := of_decide_eq_true (by first | (with_reducible assumption) | assumption)
              obtain ⟨ad247, A247_3, c247_3, e247, hx247_0, hx247_1, hx247_2, hx247_3, hl247_3, hi247_3⟩ := at_T52 HR0_1.out x4_1 p247 q247
              cases e247
              replace hx247_0 := (HB.out.cell (World.block_lt_of_cell? w _ hx247_0)).trans hx247_0
              replace hx247_1 := (HB.out.cell (World.block_lt_of_cell? w _ hx247_1)).trans hx247_1
              replace hx247_2 := (HB.out.cell (World.block_lt_of_cell? w _ hx247_2)).trans hx247_2
              replace hx247_3 := (HB.out.cell (World.block_lt_of_cell? w _ hx247_3)).trans hx247_3
              have HR247_3 := Aside0.mk hi247_3
              have HC247_3 := Aside0.mk hl247_3
              clear hi247_3 hl247_3
              replace p247 := eq_true p247
              replace q247 := eq_true q247
              go_wp2
              go_ret
              exact ⟨by first | rfl | (simp [errW_none, errW_some] <;> rfl) | (simp [*, errW_none, errW_some] <;> rfl), by repeat (first | (with_reducible first | exact HB.out | apply below_alloc | apply pw_below_drewN | apply below_drew1 | refine below_set ?_ GE242.out) | exact HB.out)⟩
            · rw [if_neg c13] at H
              have c13b0 : decide (28 < (((rd_T52 l0_1 x4_1).f1).length : Int)) = false := decide_eq_false c13
              have c13b1 : decide (28 < ((rd_T52 l0_1 x4_1).f1).length) = false := decide_eq_false (by omega)
              clear c13
              have H' := Aside0.mk H
              clear H
              have hcz15_0 : wr.cell? ⟨gb242, 0, none⟩ = some (.int .i64 a0_0) := (blk_cell BK242.out 0).trans rfl
              have hcz15_1 : wr.cell? ⟨gb242, 1, none⟩ = some (.slice A0_1 l0_1.length c0_1) := (blk_cell BK242.out 1).trans rfl
              have hcz15_2 : wr.cell? ⟨gb242, 2, none⟩ = some (.slice A0_2 l0_2.length c0_2) := (blk_cell BK242.out 2).trans rfl
              have hfz15_0 := blk_frozen BK242.out 0
              have hfz15_1 := blk_frozen BK242.out 1
              have hfz15_2 := blk_frozen BK242.out 2
              have p247 : 0 ≤ (x4_1 : Int) := of_decide_eq_true (by first | (with_reducible assumption) | assumption)
              have q247 : x4_1 < (l0_1.length : Int) := of_decide_eq_true (by first | (with_reducible assumption) | assumption)
              obtain ⟨ad247, A247_3, c247_3, e247, hx247_0, hx247_1, hx247_2, hx247_3, hl247_3, hi247_3⟩ := at_T52 HR0_1.out x4_1 p247 q247
              cases e247
              replace hx247_0 := (HB.out.cell (World.block_lt_of_cell? w _ hx247_0)).trans hx247_0
              replace hx247_1 := (HB.out.cell (World.block_lt_of_cell? w _ hx247_1)).trans hx247_1
              replace hx247_2 := (HB.out.cell (World.block_lt_of_cell? w _ hx247_2)).trans hx247_2
              replace hx247_3 := (HB.out.cell (World.block_lt_of_cell? w _ hx247_3)).trans hx247_3
              have HR247_3 := Aside0.mk hi247_3
              have HC247_3 := Aside0.mk hl247_3
              clear hi247_3 hl247_3
              replace p247 := eq_true p247
              replace q247 := eq_true q247
              go_wp2
              go_roundg k1
              case measure => have := HK1.out; omega
              case rel => exact ⟨(wrap64 (x4_1 + 1)), (by first | rfl | (simp; done) | (simp [*]; done)), H', ⟨by have := HK1.out; omega⟩, ⟨by (with_reducible repeat (first | refine blk_drewN ?_ _ | refine blk_drew ?_ | refine blk_alloc ?_ _)); exact BK242.out⟩, ⟨by repeat (first | (with_reducible first | exact HB.out | apply below_alloc | apply pw_below_drewN | apply below_drew1 | refine below_set ?_ GE242.out) | exact HB.out)⟩⟩
          · rw [if_neg c12] at H
            exact absurd H (by simp)
        · rw [if_neg c11] at H
          have c11b0 : decide (x4_1 < (l0_1.length : Int)) = false := decide_eq_false c11
          clear c11
          by_cases c16 : t246 = true
          · subst c16
            have H1 : (if (l0_2.length : Int) = 0 then (if (l0_1.length : Int) ≥ 1 then (some (decide ((l0_1.length : Int) ≤ 6))) else (some false)) else (some false)) = some r := by rw [if_pos rfl] at H; exact H
            clear H
            have H := H1
            clear H1
            by_cases c17 : (l0_2.length : Int) = 0
            · rw [if_pos c17] at H
              have c17b0 : ((l0_2.length : Int) == 0) = true := beq_iff_eq.mpr c17
              have c17b1 : ((l0_2.length : Int) != 0) = false := bne_eq_false_iff_eq.mpr c17
              clear c17
              by_cases c18 : (l0_1.length : Int) ≥ 1
              · rw [if_pos c18] at H
                have c18b0 : decide (1 ≤ (l0_1.length : Int)) = true := decide_eq_true c18
                have c18b1 : decide (1 ≤ l0_1.length) = true := decide_eq_true (by omega)
                clear c18
                obtain rfl := Option.some.inj H
                have hcz19_0 : wr.cell? ⟨gb242, 0, none⟩ = some (.int .i64 a0_0) := (blk_cell BK242.out 0).trans rfl
                have hcz19_1 : wr.cell? ⟨gb242, 1, none⟩ = some (.slice A0_1 l0_1.length c0_1) := (blk_cell BK242.out 1).trans rfl
                have hcz19_2 : wr.cell? ⟨gb242, 2, none⟩ = some (.slice A0_2 l0_2.length c0_2) := (blk_cell BK242.out 2).trans rfl
                have hfz19_0 := blk_frozen BK242.out 0
                have hfz19_1 := blk_frozen BK242.out 1
                have hfz19_2 := blk_frozen BK242.out 2
                go_wp2
                go_ret
                exact ⟨by first | rfl | (simp [errW_none, errW_some] <;> rfl) | (simp [*, errW_none, errW_some] <;> rfl), by repeat (first | (with_reducible first | exact HB.out | apply below_alloc | apply pw_below_drewN | apply below_drew1 | refine below_set ?_ GE242.out) | exact HB.out)⟩
              · rw [if_neg c18] at H
                have c18b0 : decide (1 ≤ (l0_1.length : Int)) = false := decide_eq_false c18
                have c18b1 : decide (1 ≤ l0_1.length) = false := decide_eq_false (by omega)
                clear c18
                obtain rfl := Option.some.inj H
                have hcz20_0 : wr.cell? ⟨gb242, 0, none⟩ = some (.int .i64 a0_0) := (blk_cell BK242.out 0).trans rfl
                have hcz20_1 : wr.cell? ⟨gb242, 1, none⟩ = some (.slice A0_1 l0_1.length c0_1) := (blk_cell BK242.out 1).trans rfl
                have hcz20_2 : wr.cell? ⟨gb242, 2, none⟩ = some (.slice A0_2 l0_2.length c0_2) := (blk_cell BK242.out 2).trans rfl
                have hfz20_0 := blk_frozen BK242.out 0
                have hfz20_1 := blk_frozen BK242.out 1
                have hfz20_2 := blk_frozen BK242.out 2
                go_wp2
                go_ret
                exact ⟨by first | rfl | (simp [errW_none, errW_some] <;> rfl) | (simp [*, errW_none, errW_some] <;> rfl), by repeat (first | (with_reducible first | exact HB.out | apply below_alloc | apply pw_below_drewN | apply below_drew1 | refine below_set ?_ GE242.out) | exact HB.out)⟩
            · rw [if_neg c17] at H
              have c17b0 : ((l0_2.length : Int) == 0) = false := beq_eq_false_iff_ne.mpr c17
              have c17b1 : ((l0_2.length : Int) != 0) = true := bne_iff_ne.mpr c17
              have c17b2 : ¬ (l0_2 = []) := fun h_ => c17 (by rw [h_]; rfl)
              obtain rfl := Option.some.inj H
              have hcz21_0 : wr.cell? ⟨gb242, 0, none⟩ = some (.int .i64 a0_0) := (blk_cell BK242.out 0).trans rfl
              have hcz21_1 : wr.cell? ⟨gb242, 1, none⟩ = some (.slice A0_1 l0_1.length c0_1) := (blk_cell BK242.out 1).trans rfl
              have hcz21_2 : wr.cell? ⟨gb242, 2, none⟩ = some (.slice A0_2 l0_2.length c0_2) := (blk_cell BK242.out 2).trans rfl
              have hfz21_0 := blk_frozen BK242.out 0
              have hfz21_1 := blk_frozen BK242.out 1
              have hfz21_2 := blk_frozen BK242.out 2
              go_wp2
              go_ret
              exact ⟨by first | rfl | (simp [errW_none, errW_some] <;> rfl) | (simp [*, errW_none, errW_some] <;> rfl), by repeat (first | (with_reducible first | exact HB.out | apply below_alloc | apply pw_below_drewN | apply below_drew1 | refine below_set ?_ GE242.out) | exact HB.out)⟩
          · replace c16 := Bool.eq_false_iff.mpr c16
            subst c16
            have H1 : (some false) = some r := by rw [if_neg (show ¬ (false = true) by decide)] at H; exact H
            clear H
            have H := H1
            clear H1
            obtain rfl := Option.some.inj H
            have hcz22_0 : wr.cell? ⟨gb242, 0, none⟩ = some (.int .i64 a0_0) := (blk_cell BK242.out 0).trans rfl
            have hcz22_1 : wr.cell? ⟨gb242, 1, none⟩ = some (.slice A0_1 l0_1.length c0_1) := (blk_cell BK242.out 1).trans rfl
            have hcz22_2 : wr.cell? ⟨gb242, 2, none⟩ = some (.slice A0_2 l0_2.length c0_2) := (blk_cell BK242.out 2).trans rfl
            have hfz22_0 := blk_frozen BK242.out 0
            have hfz22_1 := blk_frozen BK242.out 1
            have hfz22_2 := blk_frozen BK242.out 2
            go_wp2
            go_ret
            exact ⟨by first | rfl | (simp [errW_none, errW_some] <;> rfl) | (simp [*, errW_none, errW_some] <;> rfl), by repeat (first | (with_reducible first | exact HB.out | apply below_alloc | apply pw_below_drewN | apply below_drew1 | refine below_set ?_ GE242.out) | exact HB.out)⟩
  · rw [if_neg c4] at H
    have c4b0 : (a0_0 == 0) = false := beq_eq_false_iff_ne.mpr c4
    have c4b1 : (a0_0 != 0) = true := bne_iff_ne.mpr c4
    have H' := Aside0.mk H
    clear H
    go_enter Try.func12, Try.ntmps12
    go_wp2_with (first | ((with_reducible refine gate_dst (N := 1) rfl ?_); (try (refine gate_guard (by rfl) ?_; dsimp only)); refine box_event ?hg (N := 1) ?hd (cs := #[.int .i64 a0_0, .slice A0_1 l0_1.length c0_1, .slice A0_2 l0_2.length c0_2]) (t := 25) ?hr ?_; (case hd => rfl); (case hg => rfl); (case hr => first | (go_simp; done) | (go_simp; rfl)); intro gb242 hg w23 hbox hb; have n0_ := Aside0.mk (below_step (by repeat (first | (with_reducible first | exact HB.out | apply below_alloc | apply pw_below_drewN | apply below_drew1) | exact HB.out)) hb); have n1_ := Aside0.mk (hbox); have n2_ := Aside0.mk ((by rw [hg]; exact (below_size (by repeat (first | (with_reducible first | exact HB.out | apply below_alloc | apply pw_below_drewN | apply below_drew1) | exact HB.out))) : w.heap.size ≤ gb242)); have n3_ := Aside0.mk ((by rw [hg]; exact (below_size (by repeat (first | (with_reducible first | exact HB.out | apply below_alloc | apply pw_below_drewN | apply below_drew1) | exact HB.out))) : w.heap.size ≤ gb242)); clear HB; have HB := n0_; have BK242 := n1_; have GW242 := n2_; have GE242 := n3_; clear n0_ n1_ n2_ n3_; clear hb hbox hg; have hcz24_0 : w23.cell? ⟨gb242, 0, none⟩ = some (.int .i64 a0_0) := (blk_cell BK242.out 0).trans rfl; have hcz24_1 : w23.cell? ⟨gb242, 1, none⟩ = some (.slice A0_1 l0_1.length c0_1) := (blk_cell BK242.out 1).trans rfl; have hcz24_2 : w23.cell? ⟨gb242, 2, none⟩ = some (.slice A0_2 l0_2.length c0_2) := (blk_cell BK242.out 2).trans rfl; have hfz24_0 := blk_frozen BK242.out 0; have hfz24_1 := blk_frozen BK242.out 1; have hfz24_2 := blk_frozen BK242.out 2) | ((with_reducible refine gate_callee (f := 16) rfl ?_); refine goesL_ (some 7) rfl rfl Try.func16 (by kernel_rfl) rfl #[.agg #[.int .i64 a0_0, .slice A0_1 l0_1.length c0_1, .slice A0_2 l0_2.length c0_2]] rfl (by (try simp only [List.map_toArray, List.map_cons, List.map_nil]); first | done | rfl | (simp only [List.length_drop, List.length_take]; rfl)) ?_; (with_reducible refine (cambiumref06_Keys.calls k a0_0 _ _ l0_1 _ _ l0_2 t243 _ ?side1 ?side2 ?side3 ?side4 A2.out).mono ?_); (case side1 => repeat (first | exact (Kd.C_below HR0_1.out HB.out) | (with_reducible refine Kd.C_alloc ?_ _) | (with_reducible refine Kd.C_drewN ?_ _) | (with_reducible refine Kd.C_drew ?_))); (case side2 => exact HC0_1.out); (case side3 => repeat (first | exact (Kd.C_below HR0_2.out HB.out) | (with_reducible refine Kd.C_alloc ?_ _) | (with_reducible refine Kd.C_drewN ?_ _) | (with_reducible refine Kd.C_drew ?_))); (case side4 => exact HC0_2.out); rintro e w25 ⟨v244, rfl, ho0, hb⟩; refine ⟨_, rfl, ?_⟩; have n0_ := Aside0.mk (Kd.R_lower ho0 (below_size (by repeat (first | (with_reducible first | exact HB.out | apply below_alloc | apply pw_below_drewN | apply below_drew1 | refine below_set ?_ GE242.out) | exact HB.out)))); have n1_ := Aside0.mk (blk_below (g := gb242) (o := .cells #[.int .i64 a0_0, .slice A0_1 l0_1.length c0_1, .slice A0_2 l0_2.length c0_2] 25 (0, 0)) (by (with_reducible repeat (first | refine blk_drewN ?_ _ | refine blk_drew ?_ | refine blk_alloc ?_ _)); exact BK242.out) hb); have n2_ := Aside0.mk (below_step (by repeat (first | (with_reducible first | exact HB.out | apply below_alloc | apply pw_below_drewN | apply below_drew1 | refine below_set ?_ GE242.out) | exact HB.out)) hb); clear BK242; clear HB; have HO245 := n0_; have BK242 := n1_; have HB := n2_; clear n0_ n1_ n2_; (try clear hb); (try clear hb2); (try clear hk); (try clear hi); (try clear ho0); obtain ⟨Ao26, co26, eo26⟩ := Kd.R_slice HO245.out; subst eo26) | ((with_reducible refine gate_callee (f := 31) rfl ?_); refine goesL_ (some 8) rfl rfl Try.func31 (by kernel_rfl) rfl #[.slice Ao26 t243.length co26] rfl (by (try simp only [List.map_toArray, List.map_cons, List.map_nil]); first | done | rfl | (simp only [List.length_drop, List.length_take]; rfl)) ?_; (with_reducible refine (cambiumref06_may.calls k _ _ t243 t246 _ ?side1 ?side2 A3.out).mono ?_); (case side1 => repeat (first | exact (Kd.R_reads' HO245.out).2.2 | (with_reducible refine Kd.C_alloc ?_ _) | (with_reducible refine Kd.C_drewN ?_ _) | (with_reducible refine Kd.C_drew ?_))); (case side2 => exact (Kd.R_reads' HO245.out).2.1); rintro e w27 ⟨rfl, hb⟩; refine ⟨_, rfl, ?_⟩; have n0_ := Aside0.mk (Kd.R_below (by (with_reducible repeat (first | apply Kd.R_alloc | apply Kd.R_drewN | apply Kd.R_drew)); exact HO245.out) hb); have n1_ := Aside0.mk (blk_below (g := gb242) (o := .cells #[.int .i64 a0_0, .slice A0_1 l0_1.length c0_1, .slice A0_2 l0_2.length c0_2] 25 (0, 0)) (by (with_reducible repeat (first | refine blk_drewN ?_ _ | refine blk_drew ?_ | refine blk_alloc ?_ _)); exact BK242.out) hb); have n2_ := Aside0.mk (below_step (by repeat (first | (with_reducible first | exact HB.out | apply below_alloc | apply pw_below_drewN | apply below_drew1 | refine below_set ?_ GE242.out) | exact HB.out)) hb); clear HO245; clear BK242; clear HB; have HO245 := n0_; have BK242 := n1_; have HB := n2_; clear n0_ n1_ n2_; (try clear hb); (try clear hb2); (try clear hk); (try clear hi); have hcz28_0 : w27.cell? ⟨gb242, 0, none⟩ = some (.int .i64 a0_0) := (blk_cell BK242.out 0).trans rfl; have hcz28_1 : w27.cell? ⟨gb242, 1, none⟩ = some (.slice A0_1 l0_1.length c0_1) := (blk_cell BK242.out 1).trans rfl; have hcz28_2 : w27.cell? ⟨gb242, 2, none⟩ = some (.slice A0_2 l0_2.length c0_2) := (blk_cell BK242.out 2).trans rfl; have hfz28_0 := blk_frozen BK242.out 0; have hfz28_1 := blk_frozen BK242.out 1; have hfz28_2 := blk_frozen BK242.out 2))
    go_loopg [5] k (fun kq v5 w' => ∃ (x5_1 : Int), v5 = .int .i64 x5_1 ∧ Aside0 (cambiumref06_May.l1 kq t246 x5_1 a0_0 l0_1 l0_2 = some r) ∧ Aside0 (kq ≤ k) ∧ Aside0 (w'.heap[gb242]? = some (.cells #[.int .i64 a0_0, (.slice A0_1 l0_1.length c0_1), (.slice A0_2 l0_2.length c0_2)] 25 (0, 0))) ∧ Aside0 (Below w.heap.size w w'))
    case atStart => exact ⟨(0), (by first | rfl | (simp; done) | (simp [*]; done)), H', ⟨Nat.le_refl _⟩, ⟨by (with_reducible repeat (first | refine blk_drewN ?_ _ | refine blk_drew ?_ | refine blk_alloc ?_ _)); exact BK242.out⟩, ⟨by repeat (first | (with_reducible first | exact HB.out | apply below_alloc | apply pw_below_drewN | apply below_drew1 | refine below_set ?_ GE242.out) | exact HB.out)⟩⟩
    case round =>
      clear H'
      try clear c1
      try clear c2
      try clear p2
      try clear q2
      try clear hx2
      try clear c3
      try clear c4
      try clear c4b0
      try clear c4b1
      try clear p6
      try clear c11
      try clear c11b0
      try clear c12
      try clear c12b0
      try clear c13
      try clear c13b0
      try clear c13b1
      try clear c16
      try clear c17
      try clear c17b0
      try clear c17b1
      try clear c17b2
      try clear c18
      try clear c18b0
      try clear c18b1
      try clear c24
      try clear p24
      try clear q24
      try clear hx24
      try clear hcz10_0
      try clear hcz10_1
      try clear hcz10_2
      try clear hcz14_0
      try clear hcz14_1
      try clear hcz14_2
      try clear hcz15_0
      try clear hcz15_1
      try clear hcz15_2
      try clear hcz19_0
      try clear hcz19_1
      try clear hcz19_2
      try clear hcz20_0
      try clear hcz20_1
      try clear hcz20_2
      try clear hcz21_0
      try clear hcz21_1
      try clear hcz21_2
      try clear hcz22_0
      try clear hcz22_1
      try clear hcz22_2
      try clear hcz24_0
      try clear hcz24_1
      try clear hcz24_2
      try clear hcz28_0
      try clear hcz28_1
      try clear hcz28_2
      try clear hcz6_0
      try clear hcz6_1
      try clear hcz6_2
      try clear hfz10_0
      try clear hfz10_1
      try clear hfz10_2
      try clear hfz14_0
      try clear hfz14_1
      try clear hfz14_2
      try clear hfz15_0
      try clear hfz15_1
      try clear hfz15_2
      try clear hfz19_0
      try clear hfz19_1
      try clear hfz19_2
      try clear hfz20_0
      try clear hfz20_1
      try clear hfz20_2
      try clear hfz21_0
      try clear hfz21_1
      try clear hfz21_2
      try clear hfz22_0
      try clear hfz22_1
      try clear hfz22_2
      try clear hfz24_0
      try clear hfz24_1
      try clear hfz24_2
      try clear hfz28_0
      try clear hfz28_1
      try clear hfz28_2
      try clear hfz6_0
      try clear hfz6_1
      try clear hfz6_2
      try clear hx247_0
      try clear hx247_1
      try clear hx247_2
      try clear hx247_3
      try clear p2
      try clear p247
      try clear q247
      obtain ⟨x5_1, rfl, HA, HK1, BK242, HB⟩ := hrel
      cases gk with
      | zero => exact absurd (show none = some _ from HA.out) (by simp)
      | succ k1 =>
        have H := HA.out
        clear HA
        simp only [cambiumref06_May.l1] at H
        by_cases c29 : x5_1 < (l0_2.length : Int)
        · rw [if_pos c29] at H
          have c29b0 : decide (x5_1 < (l0_2.length : Int)) = true := decide_eq_true c29
          clear c29
          by_cases c30 : 0 ≤ x5_1
          · rw [if_pos c30] at H
            have c30b0 : decide (0 ≤ x5_1) = true := decide_eq_true c30
            clear c30
            by_cases c31 : ((rd_T57 l0_2 x5_1).f1) < 1
            · rw [if_pos c31] at H
              have c31b0 : decide (((rd_T57 l0_2 x5_1).f1) < 1) = true := decide_eq_true c31
              clear c31
              obtain rfl := Option.some.inj H
              have hcz32_0 : wr.cell? ⟨gb242, 0, none⟩ = some (.int .i64 a0_0) := (blk_cell BK242.out 0).trans rfl
              have hcz32_1 : wr.cell? ⟨gb242, 1, none⟩ = some (.slice A0_1 l0_1.length c0_1) := (blk_cell BK242.out 1).trans rfl
              have hcz32_2 : wr.cell? ⟨gb242, 2, none⟩ = some (.slice A0_2 l0_2.length c0_2) := (blk_cell BK242.out 2).trans rfl
              have hfz32_0 := blk_frozen BK242.out 0
              have hfz32_1 := blk_frozen BK242.out 1
              have hfz32_2 := blk_frozen BK242.out 2
              have p248 : 0 ≤ (x5_1 : Int) := of_decide_eq_true (by first | (with_reducible assumption) | assumption)
              have q248 : x5_1 < (l0_2.length : Int) := of_decide_eq_true (by first | (with_reducible assumption) | assumption)
              obtain ⟨ad248, e248, hx248_0, hx248_1, hx248_2, hx248_3⟩ := at_T57 HR0_2.out x5_1 p248 q248
              cases e248
              replace hx248_0 := (HB.out.cell (World.block_lt_of_cell? w _ hx248_0)).trans hx248_0
              replace hx248_1 := (HB.out.cell (World.block_lt_of_cell? w _ hx248_1)).trans hx248_1
              replace hx248_2 := (HB.out.cell (World.block_lt_of_cell? w _ hx248_2)).trans hx248_2
              replace hx248_3 := (HB.out.cell (World.block_lt_of_cell? w _ hx248_3)).trans hx248_3
              replace p248 := eq_true p248
              replace q248 := eq_true q248
              go_wp2
              go_ret
              exact ⟨by first | rfl | (simp [errW_none, errW_some] <;> rfl) | (simp [*, errW_none, errW_some] <;> rfl), by repeat (first | (with_reducible first | exact HB.out | apply below_alloc | apply pw_below_drewN | apply below_drew1 | refine below_set ?_ GE242.out) | exact HB.out)⟩
            · rw [if_neg c31] at H
              have c31b0 : decide (((rd_T57 l0_2 x5_1).f1) < 1) = false := decide_eq_false c31
              clear c31
              by_cases c33 : ((rd_T57 l0_2 x5_1).f1) ≥ 2048
              · rw [if_pos c33] at H
                have c33b0 : decide (2048 ≤ ((rd_T57 l0_2 x5_1).f1)) = true := decide_eq_true c33
                clear c33
                obtain rfl := Option.some.inj H
                have hcz34_0 : wr.cell? ⟨gb242, 0, none⟩ = some (.int .i64 a0_0) := (blk_cell BK242.out 0).trans rfl
                have hcz34_1 : wr.cell? ⟨gb242, 1, none⟩ = some (.slice A0_1 l0_1.length c0_1) := (blk_cell BK242.out 1).trans rfl
                have hcz34_2 : wr.cell? ⟨gb242, 2, none⟩ = some (.slice A0_2 l0_2.length c0_2) := (blk_cell BK242.out 2).trans rfl
                have hfz34_0 := blk_frozen BK242.out 0
                have hfz34_1 := blk_frozen BK242.out 1
                have hfz34_2 := blk_frozen BK242.out 2
                have p248 : 0 ≤ (x5_1 : Int) := of_decide_eq_true (by first | (with_reducible assumption) | assumption)
                have q248 : x5_1 < (l0_2.length : Int) := of_decide_eq_true (by first | (with_reducible assumption) | assumption)
                obtain ⟨ad248, e248, hx248_0, hx248_1, hx248_2, hx248_3⟩ := at_T57 HR0_2.out x5_1 p248 q248
                cases e248
                replace hx248_0 := (HB.out.cell (World.block_lt_of_cell? w _ hx248_0)).trans hx248_0
                replace hx248_1 := (HB.out.cell (World.block_lt_of_cell? w _ hx248_1)).trans hx248_1
                replace hx248_2 := (HB.out.cell (World.block_lt_of_cell? w _ hx248_2)).trans hx248_2
                replace hx248_3 := (HB.out.cell (World.block_lt_of_cell? w _ hx248_3)).trans hx248_3
                replace p248 := eq_true p248
                replace q248 := eq_true q248
                have p249 : 0 ≤ (x5_1 : Int) := of_decide_eq_true (by first | (with_reducible assumption) | assumption)
                have q249 : x5_1 < (l0_2.length : Int) := of_decide_eq_true (by first | (with_reducible assumption) | assumption)
                obtain ⟨ad249, e249, hx249_0, hx249_1, hx249_2, hx249_3⟩ := at_T57 HR0_2.out x5_1 p249 q249
                obtain rfl : ad248 = ad249 := (by injection e249)
                replace hx249_0 := (HB.out.cell (World.block_lt_of_cell? w _ hx249_0)).trans hx249_0
                replace hx249_1 := (HB.out.cell (World.block_lt_of_cell? w _ hx249_1)).trans hx249_1
                replace hx249_2 := (HB.out.cell (World.block_lt_of_cell? w _ hx249_2)).trans hx249_2
                replace hx249_3 := (HB.out.cell (World.block_lt_of_cell? w _ hx249_3)).trans hx249_3
                replace p249 := eq_true p249
                replace q249 := eq_true q249
                go_wp2
                go_ret
                exact ⟨by first | rfl | (simp [errW_none, errW_some] <;> rfl) | (simp [*, errW_none, errW_some] <;> rfl), by repeat (first | (with_reducible first | exact HB.out | apply below_alloc | apply pw_below_drewN | apply below_drew1 | refine below_set ?_ GE242.out) | exact HB.out)⟩
              · rw [if_neg c33] at H
                have c33b0 : decide (2048 ≤ ((rd_T57 l0_2 x5_1).f1)) = false := decide_eq_false c33
                clear c33
                have H' := Aside0.mk H
                clear H
                have hcz35_0 : wr.cell? ⟨gb242, 0, none⟩ = some (.int .i64 a0_0) := (blk_cell BK242.out 0).trans rfl
                have hcz35_1 : wr.cell? ⟨gb242, 1, none⟩ = some (.slice A0_1 l0_1.length c0_1) := (blk_cell BK242.out 1).trans rfl
                have hcz35_2 : wr.cell? ⟨gb242, 2, none⟩ = some (.slice A0_2 l0_2.length c0_2) := (blk_cell BK242.out 2).trans rfl
                have hfz35_0 := blk_frozen BK242.out 0
                have hfz35_1 := blk_frozen BK242.out 1
                have hfz35_2 := blk_frozen BK242.out 2
                have p248 : 0 ≤ (x5_1 : Int) := of_decide_eq_true (by first | (with_reducible assumption) | assumption)
                have q248 : x5_1 < (l0_2.length : Int) := of_decide_eq_true (by first | (with_reducible assumption) | assumption)
                obtain ⟨ad248, e248, hx248_0, hx248_1, hx248_2, hx248_3⟩ := at_T57 HR0_2.out x5_1 p248 q248
                cases e248
                replace hx248_0 := (HB.out.cell (World.block_lt_of_cell? w _ hx248_0)).trans hx248_0
                replace hx248_1 := (HB.out.cell (World.block_lt_of_cell? w _ hx248_1)).trans hx248_1
                replace hx248_2 := (HB.out.cell (World.block_lt_of_cell? w _ hx248_2)).trans hx248_2
                replace hx248_3 := (HB.out.cell (World.block_lt_of_cell? w _ hx248_3)).trans hx248_3
                replace p248 := eq_true p248
                replace q248 := eq_true q248
                have p249 : 0 ≤ (x5_1 : Int) := of_decide_eq_true (by first | (with_reducible assumption) | assumption)
                have q249 : x5_1 < (l0_2.length : Int) := of_decide_eq_true (by first | (with_reducible assumption) | assumption)
                obtain ⟨ad249, e249, hx249_0, hx249_1, hx249_2, hx249_3⟩ := at_T57 HR0_2.out x5_1 p249 q249
                obtain rfl : ad248 = ad249 := (by injection e249)
                replace hx249_0 := (HB.out.cell (World.block_lt_of_cell? w _ hx249_0)).trans hx249_0
                replace hx249_1 := (HB.out.cell (World.block_lt_of_cell? w _ hx249_1)).trans hx249_1
                replace hx249_2 := (HB.out.cell (World.block_lt_of_cell? w _ hx249_2)).trans hx249_2
                replace hx249_3 := (HB.out.cell (World.block_lt_of_cell? w _ hx249_3)).trans hx249_3
                replace p249 := eq_true p249
                replace q249 := eq_true q249
                go_wp2
                go_roundg k1
                case measure => have := HK1.out; omega
                case rel => exact ⟨(wrap64 (x5_1 + 1)), (by first | rfl | (simp; done) | (simp [*]; done)), H', ⟨by have := HK1.out; omega⟩, ⟨by (with_reducible repeat (first | refine blk_drewN ?_ _ | refine blk_drew ?_ | refine blk_alloc ?_ _)); exact BK242.out⟩, ⟨by repeat (first | (with_reducible first | exact HB.out | apply below_alloc | apply pw_below_drewN | apply below_drew1 | refine below_set ?_ GE242.out) | exact HB.out)⟩⟩
          · rw [if_neg c30] at H
            exact absurd H (by simp)
        · rw [if_neg c29] at H
          have c29b0 : decide (x5_1 < (l0_2.length : Int)) = false := decide_eq_false c29
          clear c29
          by_cases c36 : t246 = true
          · subst c36
            have H1 : (if a0_0 ≥ 1 then (if a0_0 < 8 then (if (l0_1.length : Int) = 0 then (if (l0_2.length : Int) ≥ 2 then (some (decide ((l0_2.length : Int) ≤ 12))) else (some false)) else (some false)) else (some false)) else (some false)) = some r := by rw [if_pos rfl] at H; exact H
            clear H
            have H := H1
            clear H1
            by_cases c37 : a0_0 ≥ 1
            · rw [if_pos c37] at H
              have c37b0 : decide (1 ≤ a0_0) = true := decide_eq_true c37
              clear c37
              by_cases c38 : a0_0 < 8
              · rw [if_pos c38] at H
                have c38b0 : decide (a0_0 < 8) = true := decide_eq_true c38
                clear c38
                by_cases c39 : (l0_1.length : Int) = 0
                · rw [if_pos c39] at H
                  have c39b0 : ((l0_1.length : Int) == 0) = true := beq_iff_eq.mpr c39
                  have c39b1 : ((l0_1.length : Int) != 0) = false := bne_eq_false_iff_eq.mpr c39
                  clear c39
                  by_cases c40 : (l0_2.length : Int) ≥ 2
                  · rw [if_pos c40] at H
                    have c40b0 : decide (2 ≤ (l0_2.length : Int)) = true := decide_eq_true c40
                    have c40b1 : decide (2 ≤ l0_2.length) = true := decide_eq_true (by omega)
                    clear c40
                    obtain rfl := Option.some.inj H
                    have hcz41_0 : wr.cell? ⟨gb242, 0, none⟩ = some (.int .i64 a0_0) := (blk_cell BK242.out 0).trans rfl
                    have hcz41_1 : wr.cell? ⟨gb242, 1, none⟩ = some (.slice A0_1 l0_1.length c0_1) := (blk_cell BK242.out 1).trans rfl
                    have hcz41_2 : wr.cell? ⟨gb242, 2, none⟩ = some (.slice A0_2 l0_2.length c0_2) := (blk_cell BK242.out 2).trans rfl
                    have hfz41_0 := blk_frozen BK242.out 0
                    have hfz41_1 := blk_frozen BK242.out 1
                    have hfz41_2 := blk_frozen BK242.out 2
                    go_wp2
                    go_ret
                    exact ⟨by first | rfl | (simp [errW_none, errW_some] <;> rfl) | (simp [*, errW_none, errW_some] <;> rfl), by repeat (first | (with_reducible first | exact HB.out | apply below_alloc | apply pw_below_drewN | apply below_drew1 | refine below_set ?_ GE242.out) | exact HB.out)⟩
                  · rw [if_neg c40] at H
                    have c40b0 : decide (2 ≤ (l0_2.length : Int)) = false := decide_eq_false c40
                    have c40b1 : decide (2 ≤ l0_2.length) = false := decide_eq_false (by omega)
                    clear c40
                    obtain rfl := Option.some.inj H
                    have hcz42_0 : wr.cell? ⟨gb242, 0, none⟩ = some (.int .i64 a0_0) := (blk_cell BK242.out 0).trans rfl
                    have hcz42_1 : wr.cell? ⟨gb242, 1, none⟩ = some (.slice A0_1 l0_1.length c0_1) := (blk_cell BK242.out 1).trans rfl
                    have hcz42_2 : wr.cell? ⟨gb242, 2, none⟩ = some (.slice A0_2 l0_2.length c0_2) := (blk_cell BK242.out 2).trans rfl
                    have hfz42_0 := blk_frozen BK242.out 0
                    have hfz42_1 := blk_frozen BK242.out 1
                    have hfz42_2 := blk_frozen BK242.out 2
                    go_wp2
                    go_ret
                    exact ⟨by first | rfl | (simp [errW_none, errW_some] <;> rfl) | (simp [*, errW_none, errW_some] <;> rfl), by repeat (first | (with_reducible first | exact HB.out | apply below_alloc | apply pw_below_drewN | apply below_drew1 | refine below_set ?_ GE242.out) | exact HB.out)⟩
                · rw [if_neg c39] at H
                  have c39b0 : ((l0_1.length : Int) == 0) = false := beq_eq_false_iff_ne.mpr c39
                  have c39b1 : ((l0_1.length : Int) != 0) = true := bne_iff_ne.mpr c39
                  have c39b2 : ¬ (l0_1 = []) := fun h_ => c39 (by rw [h_]; rfl)
                  obtain rfl := Option.some.inj H
                  have hcz43_0 : wr.cell? ⟨gb242, 0, none⟩ = some (.int .i64 a0_0) := (blk_cell BK242.out 0).trans rfl
                  have hcz43_1 : wr.cell? ⟨gb242, 1, none⟩ = some (.slice A0_1 l0_1.length c0_1) := (blk_cell BK242.out 1).trans rfl
                  have hcz43_2 : wr.cell? ⟨gb242, 2, none⟩ = some (.slice A0_2 l0_2.length c0_2) := (blk_cell BK242.out 2).trans rfl
                  have hfz43_0 := blk_frozen BK242.out 0
                  have hfz43_1 := blk_frozen BK242.out 1
                  have hfz43_2 := blk_frozen BK242.out 2
                  go_wp2
                  go_ret
                  exact ⟨by first | rfl | (simp [errW_none, errW_some] <;> rfl) | (simp [*, errW_none, errW_some] <;> rfl), by repeat (first | (with_reducible first | exact HB.out | apply below_alloc | apply pw_below_drewN | apply below_drew1 | refine below_set ?_ GE242.out) | exact HB.out)⟩
              · rw [if_neg c38] at H
                have c38b0 : decide (a0_0 < 8) = false := decide_eq_false c38
                clear c38
                obtain rfl := Option.some.inj H
                have hcz44_0 : wr.cell? ⟨gb242, 0, none⟩ = some (.int .i64 a0_0) := (blk_cell BK242.out 0).trans rfl
                have hcz44_1 : wr.cell? ⟨gb242, 1, none⟩ = some (.slice A0_1 l0_1.length c0_1) := (blk_cell BK242.out 1).trans rfl
                have hcz44_2 : wr.cell? ⟨gb242, 2, none⟩ = some (.slice A0_2 l0_2.length c0_2) := (blk_cell BK242.out 2).trans rfl
                have hfz44_0 := blk_frozen BK242.out 0
                have hfz44_1 := blk_frozen BK242.out 1
                have hfz44_2 := blk_frozen BK242.out 2
                go_wp2
                go_ret
                exact ⟨by first | rfl | (simp [errW_none, errW_some] <;> rfl) | (simp [*, errW_none, errW_some] <;> rfl), by repeat (first | (with_reducible first | exact HB.out | apply below_alloc | apply pw_below_drewN | apply below_drew1 | refine below_set ?_ GE242.out) | exact HB.out)⟩
            · rw [if_neg c37] at H
              have c37b0 : decide (1 ≤ a0_0) = false := decide_eq_false c37
              clear c37
              obtain rfl := Option.some.inj H
              have hcz45_0 : wr.cell? ⟨gb242, 0, none⟩ = some (.int .i64 a0_0) := (blk_cell BK242.out 0).trans rfl
              have hcz45_1 : wr.cell? ⟨gb242, 1, none⟩ = some (.slice A0_1 l0_1.length c0_1) := (blk_cell BK242.out 1).trans rfl
              have hcz45_2 : wr.cell? ⟨gb242, 2, none⟩ = some (.slice A0_2 l0_2.length c0_2) := (blk_cell BK242.out 2).trans rfl
              have hfz45_0 := blk_frozen BK242.out 0
              have hfz45_1 := blk_frozen BK242.out 1
              have hfz45_2 := blk_frozen BK242.out 2
              go_wp2
              go_ret
              exact ⟨by first | rfl | (simp [errW_none, errW_some] <;> rfl) | (simp [*, errW_none, errW_some] <;> rfl), by repeat (first | (with_reducible first | exact HB.out | apply below_alloc | apply pw_below_drewN | apply below_drew1 | refine below_set ?_ GE242.out) | exact HB.out)⟩
          · replace c36 := Bool.eq_false_iff.mpr c36
            subst c36
            have H1 : (some false) = some r := by rw [if_neg (show ¬ (false = true) by decide)] at H; exact H
            clear H
            have H := H1
            clear H1
            obtain rfl := Option.some.inj H
            have hcz46_0 : wr.cell? ⟨gb242, 0, none⟩ = some (.int .i64 a0_0) := (blk_cell BK242.out 0).trans rfl
            have hcz46_1 : wr.cell? ⟨gb242, 1, none⟩ = some (.slice A0_1 l0_1.length c0_1) := (blk_cell BK242.out 1).trans rfl
            have hcz46_2 : wr.cell? ⟨gb242, 2, none⟩ = some (.slice A0_2 l0_2.length c0_2) := (blk_cell BK242.out 2).trans rfl
            have hfz46_0 := blk_frozen BK242.out 0
            have hfz46_1 := blk_frozen BK242.out 1
            have hfz46_2 := blk_frozen BK242.out 2
            go_wp2
            go_ret
            exact ⟨by first | rfl | (simp [errW_none, errW_some] <;> rfl) | (simp [*, errW_none, errW_some] <;> rfl), by repeat (first | (with_reducible first | exact HB.out | apply below_alloc | apply pw_below_drewN | apply below_drew1 | refine below_set ?_ GE242.out) | exact HB.out)⟩

/-! ### cambiumlaw06_NodeMays: function 3 -/
def cambiumlaw06_NodeMays.f (k : Nat) (a0_0 : Int) (l0_1 : List (S52)) (l0_2 : List (S57)) : Option (Bool) := (cambiumlaw06_shown.f).bind fun t251 => ((cambiumlaw06_few.f a0_0 l0_1 l0_2).bind fun bt252 => (if t251 = true then ((node_May.f k bt252.1 bt252.2.1 bt252.2.2).bind fun t259 => ((cambiumref06_May.f k bt252.1 bt252.2.1 bt252.2.2).bind fun t260 => (some (t259 == t260)))) else (some false)))
theorem cambiumlaw06_NodeMays.mono : ∀ a0 a1 a2 k, LeO (cambiumlaw06_NodeMays.f k a0 a1 a2) (cambiumlaw06_NodeMays.f (k + 1) a0 a1 a2) := by
  intro a0 a1 a2 k
  unfold cambiumlaw06_NodeMays.f
  repeat' first
      | (with_reducible exact cambiumref06_May.mono _ _ _ _)
      | (with_reducible exact node_May.mono _ _ _ _)
      | (with_reducible exact LeO.refl _)
      | (with_reducible exact LeO.none _)
      | (with_reducible refine LeO.ite ?_ ?_)
      | (with_reducible refine LeO.bind ?_ (fun _ => ?_))
      | exact cambiumref06_May.mono _ _ _ _
      | exact node_May.mono _ _ _ _
      | exact LeO.none _
      | refine LeO.ite ?_ ?_
      | refine LeO.bind ?_ (fun _ => ?_)
def cambiumlaw06_NodeMays.T3 : Bool × List (List Nat × List Nat) := (true, [([], []), ([0], [0]), ([1], [1]), ([2, 1, 1], [1, 2]), ([1], [1]), ([4, 3, 1], [1, 4]), ([3, 5, 1], [1, 3, 5]), ([1, 6], [1, 6]), ([7, 5, 0, 1, 2, 3, 4, 5, 6, 7], [7])])
def cambiumlaw06_NodeMays.B3 : List Nat := [0, 1, 3, 7, 3, 31, 63, 127, 255]
theorem cambiumlaw06_NodeMays.tab3 : rtab .any (opsOf Try.f3 3) = cambiumlaw06_NodeMays.T3 := by kernel_rfl
theorem cambiumlaw06_NodeMays.bits3 : waitsOk cambiumlaw06_NodeMays.T3.2 cambiumlaw06_NodeMays.B3 = true := by kernel_rfl
set_option maxHeartbeats 8000000 in
set_option maxRecDepth 100000 in
theorem cambiumlaw06_NodeMays.calls (k : Nat) (a0_0 : Int) (A0_1 : Option Addr) (c0_1 : Nat) (l0_1 : List (S52)) (A0_2 : Option Addr) (c0_2 : Nat) (l0_2 : List (S57)) (r : Bool) (w : World) (hr0_1 : Kd.C k52 w A0_1 l0_1.length l0_1) (hc0_1 : l0_1.length ≤ c0_1) (hr0_2 : Kd.C k57 w A0_2 l0_2.length l0_2) (hc0_2 : l0_2.length ≤ c0_2) (hr_ : Aside0 (r = true)) (h : cambiumlaw06_NodeMays.f k a0_0 l0_1 l0_2 = some r) :
    Calls Try.prog 3 #[.agg #[.int .i64 a0_0, .slice A0_1 l0_1.length c0_1, .slice A0_2 l0_2.length c0_2]] w fun e w' => e = .returned (.bool r) ∧ Below w.heap.size w w' := by
  have hu25 := Try.underlying25
  have HR0_1 := Aside0.mk hr0_1
  have HC0_1 := Aside0.mk hc0_1
  clear hr0_1 hc0_1
  have HR0_2 := Aside0.mk hr0_2
  have HC0_2 := Aside0.mk hc0_2
  clear hr0_2 hc0_2
  have HB := Aside0.mk (Below.refl w.heap.size w)
  have H : ((cambiumlaw06_shown.f).bind fun t251 => ((cambiumlaw06_few.f a0_0 l0_1 l0_2).bind fun bt252 => (if t251 = true then ((node_May.f k bt252.1 bt252.2.1 bt252.2.2).bind fun t259 => ((cambiumref06_May.f k bt252.1 bt252.2.1 bt252.2.2).bind fun t260 => (some (t259 == t260)))) else (some false)))) = some r := h
  clear h
  replace H := Option.bind_eq_some_iff.mp H
  obtain ⟨t251, A20, H⟩ := H
  replace H : ((cambiumlaw06_few.f a0_0 l0_1 l0_2).bind fun bt252 => (if t251 = true then ((node_May.f k bt252.1 bt252.2.1 bt252.2.2).bind fun t259 => ((cambiumref06_May.f k bt252.1 bt252.2.1 bt252.2.2).bind fun t260 => (some (t259 == t260)))) else (some false))) = some r := H
  have A2 := Aside0.mk A20
  clear A20
  replace H := Option.bind_eq_some_iff.mp H
  obtain ⟨⟨t252, t253, t256⟩, A30, H⟩ := H
  replace H : (if t251 = true then ((node_May.f k t252 t253 t256).bind fun t259 => ((cambiumref06_May.f k t252 t253 t256).bind fun t260 => (some (t259 == t260)))) else (some false)) = some r := H
  have A3 := Aside0.mk A30
  clear A30
  by_cases c4 : t251 = true
  · subst c4
    have H1 : ((node_May.f k t252 t253 t256).bind fun t259 => ((cambiumref06_May.f k t252 t253 t256).bind fun t260 => (some (t259 == t260)))) = some r := by rw [if_pos rfl] at H; exact H
    clear H
    have H := H1
    clear H1
    replace H := Option.bind_eq_some_iff.mp H
    obtain ⟨t259, A50, H⟩ := H
    replace H : ((cambiumref06_May.f k t252 t253 t256).bind fun t260 => (some (t259 == t260))) = some r := H
    have A5 := Aside0.mk A50
    clear A50
    replace H := Option.bind_eq_some_iff.mp H
    obtain ⟨t260, A60, H⟩ := H
    replace H : (some (t259 == t260)) = some r := H
    have A6 := Aside0.mk A60
    clear A60
    obtain rfl := Option.some.inj H
    go_enter Try.func3, Try.ntmps3
    try go_wp2_with (first | ((with_reducible refine gate_dst (N := 1) rfl ?_); refine box_event ?hg (N := 1) ?hd (cs := #[.int .i64 a0_0, .slice A0_1 l0_1.length c0_1, .slice A0_2 l0_2.length c0_2]) (t := 25) ?hr ?_; (case hd => rfl); (case hg => rfl); (case hr => first | (go_simp; done) | (go_simp; rfl)); intro gb250 hg w7 hbox hb; have n0_ := Aside0.mk (below_step (by repeat (first | (with_reducible first | exact HB.out | apply below_alloc | apply pw_below_drewN | apply below_drew1) | exact HB.out)) hb); have n1_ := Aside0.mk (hbox); have n2_ := Aside0.mk ((by rw [hg]; exact (below_size (by repeat (first | (with_reducible first | exact HB.out | apply below_alloc | apply pw_below_drewN | apply below_drew1) | exact HB.out))) : w.heap.size ≤ gb250)); have n3_ := Aside0.mk ((by rw [hg]; exact (below_size (by repeat (first | (with_reducible first | exact HB.out | apply below_alloc | apply pw_below_drewN | apply below_drew1) | exact HB.out))) : w.heap.size ≤ gb250)); clear HB; have HB := n0_; have BK250 := n1_; have GW250 := n2_; have GE250 := n3_; clear n0_ n1_ n2_ n3_; clear hb hbox hg) | ((with_reducible refine gate_callee (f := 9) rfl ?_); refine goesL_ (some 4) rfl rfl Try.func9 (by kernel_rfl) rfl #[] rfl (by (try simp only [List.map_toArray, List.map_cons, List.map_nil]); first | done | rfl | (simp only [List.length_drop, List.length_take]; rfl)) ?_; (with_reducible refine (cambiumlaw06_shown.calls  true _ A2.out).mono ?_); rintro e w8 ⟨rfl, hb⟩; refine ⟨_, rfl, ?_⟩; have n0_ := Aside0.mk (blk_below (g := gb250) (o := .cells #[.int .i64 a0_0, .slice A0_1 l0_1.length c0_1, .slice A0_2 l0_2.length c0_2] 25 (0, 0)) (by (with_reducible repeat (first | refine blk_drewN ?_ _ | refine blk_drew ?_ | refine blk_alloc ?_ _)); exact BK250.out) hb); have n1_ := Aside0.mk (below_step (by repeat (first | (with_reducible first | exact HB.out | apply below_alloc | apply pw_below_drewN | apply below_drew1 | refine below_set ?_ GE250.out) | exact HB.out)) hb); clear BK250; clear HB; have BK250 := n0_; have HB := n1_; clear n0_ n1_; (try clear hb); (try clear hb2); (try clear hk); (try clear hi); have hcz9_0 : w8.cell? ⟨gb250, 0, none⟩ = some (.int .i64 a0_0) := (blk_cell BK250.out 0).trans rfl; have hcz9_1 : w8.cell? ⟨gb250, 1, none⟩ = some (.slice A0_1 l0_1.length c0_1) := (blk_cell BK250.out 1).trans rfl; have hcz9_2 : w8.cell? ⟨gb250, 2, none⟩ = some (.slice A0_2 l0_2.length c0_2) := (blk_cell BK250.out 2).trans rfl; have hfz9_0 := blk_frozen BK250.out 0; have hfz9_1 := blk_frozen BK250.out 1; have hfz9_2 := blk_frozen BK250.out 2) | ((with_reducible refine gate_callee (f := 10) rfl ?_); refine goesL_ (some 6) rfl rfl Try.func10 (by kernel_rfl) rfl #[.agg #[.int .i64 a0_0, .slice A0_1 l0_1.length c0_1, .slice A0_2 l0_2.length c0_2]] rfl (by (try simp only [List.map_toArray, List.map_cons, List.map_nil]); first | done | rfl | (simp only [List.length_drop, List.length_take]; rfl)) ?_; (with_reducible refine (cambiumlaw06_few.calls a0_0 (fun k_ => k_ < w.heap.size) _ _ l0_1 (fun k_ => k_ < w.heap.size) _ _ l0_2 t252 t253 t256 _ ?side1 ?side2 A3.out).mono ?_); (case side1 => exact Kd.V_mk HC0_1.out (Kd.F_below (Kd.C_F k52_heap HR0_1.out) (by repeat (first | (with_reducible first | exact HB.out | apply below_alloc | apply pw_below_drewN | apply below_drew1 | refine below_set ?_ GE250.out) | exact HB.out)))); (case side2 => exact Kd.V_mk HC0_2.out (Kd.F_below (Kd.C_F k57_heap HR0_2.out) (by repeat (first | (with_reducible first | exact HB.out | apply below_alloc | apply pw_below_drewN | apply below_drew1 | refine below_set ?_ GE250.out) | exact HB.out)))); rintro e w10 ⟨v254, v257, rfl, ho0, ho1, hb⟩; refine ⟨_, rfl, ?_⟩; have n0_ := Aside0.mk (Kd.V_lower (Kd.V_mono (ok' := fun k_ => k_ ≠ gb250) ho0 (fun k_ hk_ => Or.elim hk_ (fun hs_ => Or.elim hs_ (fun hs_ => fun e_ => Nat.not_le.2 hs_ (by rw [e_]; exact GW250.out)) (fun hs_ => fun e_ => Nat.not_le.2 hs_ (by rw [e_]; exact GW250.out))) (fun hn_ => (Kd.freshB (g := gb250) (o := .cells #[.int .i64 a0_0, .slice A0_1 l0_1.length c0_1, .slice A0_2 l0_2.length c0_2] 25 (0, 0)) (by (with_reducible repeat (first | refine blk_drewN ?_ _ | refine blk_drew ?_ | refine blk_alloc ?_ _)); exact BK250.out) k_ hn_)))) (below_size (by repeat (first | (with_reducible first | exact HB.out | apply below_alloc | apply pw_below_drewN | apply below_drew1 | refine below_set ?_ GE250.out) | exact HB.out)))); have n1_ := Aside0.mk (Kd.V_lower (Kd.V_mono (ok' := fun k_ => k_ ≠ gb250) ho1 (fun k_ hk_ => Or.elim hk_ (fun hs_ => Or.elim hs_ (fun hs_ => fun e_ => Nat.not_le.2 hs_ (by rw [e_]; exact GW250.out)) (fun hs_ => fun e_ => Nat.not_le.2 hs_ (by rw [e_]; exact GW250.out))) (fun hn_ => (Kd.freshB (g := gb250) (o := .cells #[.int .i64 a0_0, .slice A0_1 l0_1.length c0_1, .slice A0_2 l0_2.length c0_2] 25 (0, 0)) (by (with_reducible repeat (first | refine blk_drewN ?_ _ | refine blk_drew ?_ | refine blk_alloc ?_ _)); exact BK250.out) k_ hn_)))) (below_size (by repeat (first | (with_reducible first | exact HB.out | apply below_alloc | apply pw_below_drewN | apply below_drew1 | refine below_set ?_ GE250.out) | exact HB.out)))); have n2_ := Aside0.mk (blk_below (g := gb250) (o := .cells #[.int .i64 a0_0, .slice A0_1 l0_1.length c0_1, .slice A0_2 l0_2.length c0_2] 25 (0, 0)) (by (with_reducible repeat (first | refine blk_drewN ?_ _ | refine blk_drew ?_ | refine blk_alloc ?_ _)); exact BK250.out) hb); have n3_ := Aside0.mk (below_step (by repeat (first | (with_reducible first | exact HB.out | apply below_alloc | apply pw_below_drewN | apply below_drew1 | refine below_set ?_ GE250.out) | exact HB.out)) hb); clear BK250; clear HB; have HO255 := n0_; have HO258 := n1_; have BK250 := n2_; have HB := n3_; clear n0_ n1_ n2_ n3_; (try clear hb); (try clear hb2); (try clear hk); (try clear hi); (try clear ho0); (try clear ho1); have hcz11_0 : w10.cell? ⟨gb250, 0, none⟩ = some (.int .i64 a0_0) := (blk_cell BK250.out 0).trans rfl; have hcz11_1 : w10.cell? ⟨gb250, 1, none⟩ = some (.slice A0_1 l0_1.length c0_1) := (blk_cell BK250.out 1).trans rfl; have hcz11_2 : w10.cell? ⟨gb250, 2, none⟩ = some (.slice A0_2 l0_2.length c0_2) := (blk_cell BK250.out 2).trans rfl; have hfz11_0 := blk_frozen BK250.out 0; have hfz11_1 := blk_frozen BK250.out 1; have hfz11_2 := blk_frozen BK250.out 2; obtain ⟨Ao12, co12, eo12⟩ := Kd.V_slice HO255.out; subst eo12; obtain ⟨Ao13, co13, eo13⟩ := Kd.V_slice HO258.out; subst eo13))
    have n0_ : Aside0 (Kd.V k52 52 (((w10.setCell ⟨gb250, 0, none⟩ (.int .i64 t252)).setCell ⟨gb250, 1, none⟩ (.slice Ao12 t253.length co12)).setCell ⟨gb250, 2, none⟩ (.slice Ao13 t256.length co13)) w.heap.size (fun k_ => k_ ≠ gb250) (.slice Ao12 t253.length co12) t253) := ⟨by (with_reducible repeat (first | apply Kd.V_alloc | apply Kd.V_drewN | apply Kd.V_drew)); exact Kd.V_mono (Kd.V_far (p := ⟨gb250, 2, none⟩) (Kd.V_far (p := ⟨gb250, 1, none⟩) (Kd.V_far (p := ⟨gb250, 0, none⟩) (Kd.V_mono HO255.out (fun k_ hk => (⟨hk, hk⟩ : _ ∧ k_ ≠ gb250))) (fun _ hk => hk.2) (.int .i64 t252)) (fun _ hk => hk.2) (.slice Ao12 t253.length co12)) (fun _ hk => hk.2) (.slice Ao13 t256.length co13)) (fun _ hk => hk.1)⟩
    have n1_ : Aside0 (Kd.V k57 57 (((w10.setCell ⟨gb250, 0, none⟩ (.int .i64 t252)).setCell ⟨gb250, 1, none⟩ (.slice Ao12 t253.length co12)).setCell ⟨gb250, 2, none⟩ (.slice Ao13 t256.length co13)) w.heap.size (fun k_ => k_ ≠ gb250) (.slice Ao13 t256.length co13) t256) := ⟨by (with_reducible repeat (first | apply Kd.V_alloc | apply Kd.V_drewN | apply Kd.V_drew)); exact Kd.V_mono (Kd.V_far (p := ⟨gb250, 2, none⟩) (Kd.V_far (p := ⟨gb250, 1, none⟩) (Kd.V_far (p := ⟨gb250, 0, none⟩) (Kd.V_mono HO258.out (fun k_ hk => (⟨hk, hk⟩ : _ ∧ k_ ≠ gb250))) (fun _ hk => hk.2) (.int .i64 t252)) (fun _ hk => hk.2) (.slice Ao12 t253.length co12)) (fun _ hk => hk.2) (.slice Ao13 t256.length co13)) (fun _ hk => hk.1)⟩
    have n2_ : Aside0 ((((w10.setCell ⟨gb250, 0, none⟩ (.int .i64 t252)).setCell ⟨gb250, 1, none⟩ (.slice Ao12 t253.length co12)).setCell ⟨gb250, 2, none⟩ (.slice Ao13 t256.length co13)).heap[gb250]? = some (.cells #[.int .i64 t252, .slice Ao12 t253.length co12, .slice Ao13 t256.length co13] 25 (0, 0))) := ⟨by (with_reducible repeat (first | refine blk_drewN ?_ _ | refine blk_drew ?_ | refine blk_alloc ?_ _)); refine blk_put (cs := #[.int .i64 t252, .slice Ao12 t253.length co12, .slice A0_2 l0_2.length c0_2]) ?_ 2 _ rfl; (with_reducible repeat (first | refine blk_drewN ?_ _ | refine blk_drew ?_ | refine blk_alloc ?_ _)); refine blk_put (cs := #[.int .i64 t252, .slice A0_1 l0_1.length c0_1, .slice A0_2 l0_2.length c0_2]) ?_ 1 _ rfl; (with_reducible repeat (first | refine blk_drewN ?_ _ | refine blk_drew ?_ | refine blk_alloc ?_ _)); refine blk_put (cs := #[.int .i64 a0_0, .slice A0_1 l0_1.length c0_1, .slice A0_2 l0_2.length c0_2]) ?_ 0 _ rfl; (with_reducible repeat (first | refine blk_drewN ?_ _ | refine blk_drew ?_ | refine blk_alloc ?_ _)); exact BK250.out⟩
    have n3_ : Aside0 (Below w.heap.size w (((w10.setCell ⟨gb250, 0, none⟩ (.int .i64 t252)).setCell ⟨gb250, 1, none⟩ (.slice Ao12 t253.length co12)).setCell ⟨gb250, 2, none⟩ (.slice Ao13 t256.length co13))) := ⟨by repeat (first | (with_reducible first | exact HB.out | apply below_alloc | apply pw_below_drewN | apply below_drew1 | refine below_set ?_ GE250.out) | exact HB.out)⟩
    (try clear HO255)
    (try clear HO258)
    (try clear BK250)
    (try clear HB)
    generalize (((w10.setCell ⟨gb250, 0, none⟩ (.int .i64 t252)).setCell ⟨gb250, 1, none⟩ (.slice Ao12 t253.length co12)).setCell ⟨gb250, 2, none⟩ (.slice Ao13 t256.length co13)) = w14 at n0_ n1_ n2_ n3_ ⊢
    have HO255 := n0_
    have HO258 := n1_
    have BK250 := n2_
    have HB := n3_
    clear n0_ n1_ n2_ n3_
    have n0_ := Aside0.mk (Kd.V_drew HO255.out)
    have n1_ := Aside0.mk (Kd.V_drew HO258.out)
    have n2_ := Aside0.mk (blk_drew BK250.out)
    have n3_ := Aside0.mk (below_drew1 HB.out)
    clear HO255
    clear HO258
    clear BK250
    clear HB
    have HO255 := n0_
    have HO258 := n1_
    have BK250 := n2_
    have HB := n3_
    clear n0_ n1_ n2_ n3_
    refine start_ (n := 9) (S := fun w' => w'.cell? ⟨gb250, 0, none⟩ = some (.int .i64 t252) ∧ w'.cell? ⟨gb250, 1, none⟩ = some (.slice Ao12 t253.length co12) ∧ w'.cell? ⟨gb250, 2, none⟩ = some (.slice Ao13 t256.length co13)) (ds := []) #[false, false, false, false, false, false, false, false, false] (by kernel_rfl) rfl rfl ⟨(blk_cell BK250.out 0).trans rfl, (blk_cell BK250.out 1).trans rfl, (blk_cell BK250.out 2).trans rfl⟩ (fun hHeld => ?_); refine with_tabW cambiumlaw06_NodeMays.tab3 cambiumlaw06_NodeMays.bits3 (fun HT_ HW_ => ?_)
    generalize w14.drew = w15 at HO255 HO258 BK250 HB hHeld ⊢
    refine pure_ (i := 0) (N := some 7) (v := ?_) (a' := ?_) #[true, false, false, false, false, false, false, false, false] rfl rfl (any_of HT_.out (by kernel_rfl)) (fun _ _ _ h => h) (Or.inl ⟨by rfl, ?_⟩) ?_ ?_
    rotate_left
    · intro w'
      go_simp
      with_reducible rfl
    rotate_left
    · simp only [Act.put, List.setIfInBounds_toArray, List.set_cons_zero, List.set_cons_succ, i64_w, i32_w]
      rfl
    refine pure_ (i := 1) (N := some 8) (v := ?_) (a' := ?_) #[true, true, false, false, false, false, false, false, false] rfl rfl (any_of HT_.out (by kernel_rfl)) (fun _ _ _ h => h) (Or.inl ⟨by rfl, ?_⟩) ?_ ?_
    rotate_left
    · intro w'
      go_simp
      with_reducible rfl
    rotate_left
    · simp only [Act.put, List.setIfInBounds_toArray, List.set_cons_zero, List.set_cons_succ, i64_w, i32_w]
      rfl
    refine take_ (i := 2) (N := some 9) (v := ?_) (a' := ?_) #[true, true, true, false, false, false, false, false, false] rfl rfl (take_ofW HT_.out HW_.out (by kernel_rfl)) (fun _ _ _ h => h) (Or.inl ⟨by rfl, ?_⟩) hHeld ?_ ?_
    rotate_left
    · rintro w' ⟨s0, s1, s2⟩
      go_simp
      with_reducible rfl
    rotate_left
    · simp only [Act.put, List.setIfInBounds_toArray, List.set_cons_zero, List.set_cons_succ, i64_w, i32_w]
      rfl
    refine take_ (i := 4) (N := some 11) (v := ?_) (a' := ?_) #[true, true, true, false, true, false, false, false, false] rfl rfl (take_ofW HT_.out HW_.out (by kernel_rfl)) (fun _ _ _ h => h) (Or.inl ⟨by rfl, ?_⟩) hHeld ?_ ?_
    rotate_left
    · rintro w' ⟨s0, s1, s2⟩
      go_simp
      with_reducible rfl
    rotate_left
    · simp only [Act.put, List.setIfInBounds_toArray, List.set_cons_zero, List.set_cons_succ, i64_w, i32_w]
      rfl
    refine one_ (i := 3) (N := some 10) #[true, true, true, true, true, false, false, false, false] rfl rfl (one_of HT_.out (by kernel_rfl)) (by decide) (fun K hK => ?_)
    refine goes_ Try.func11 (by kernel_rfl) rfl #[.agg #[.int .i64 t252, .slice Ao12 t253.length co12, .slice Ao13 t256.length co13]] (by rfl) rfl rfl (by (try simp only [List.map_toArray, List.map_cons, List.map_nil]); first | done | rfl | (simp only [List.length_drop, List.length_take]; rfl)) ?_
    with_reducible refine (node_May.calls k t252 _ _ t253 _ _ t256 t259 _ ?side1 ?side2 ?side3 ?side4 A5.out).mono ?_
    (case side1 => repeat (first | exact (Kd.V_reads' HO255.out).2.2 | (with_reducible refine Kd.C_alloc ?_ _) | (with_reducible refine Kd.C_drewN ?_ _) | (with_reducible refine Kd.C_drew ?_)))
    (case side2 => exact (Kd.V_reads' HO255.out).2.1)
    (case side3 => repeat (first | exact (Kd.V_reads' HO258.out).2.2 | (with_reducible refine Kd.C_alloc ?_ _) | (with_reducible refine Kd.C_drewN ?_ _) | (with_reducible refine Kd.C_drew ?_)))
    (case side4 => exact (Kd.V_reads' HO258.out).2.1)
    rintro e w16 ⟨rfl, hb⟩
    refine ⟨_, rfl, ?_⟩
    have n0_ := Aside0.mk (Kd.V_below (by (with_reducible repeat (first | apply Kd.V_alloc | apply Kd.V_drewN | apply Kd.V_drew)); exact HO255.out) hb)
    have n1_ := Aside0.mk (Kd.V_below (by (with_reducible repeat (first | apply Kd.V_alloc | apply Kd.V_drewN | apply Kd.V_drew)); exact HO258.out) hb)
    have n2_ := Aside0.mk (blk_below (g := gb250) (o := .cells #[.int .i64 t252, .slice Ao12 t253.length co12, .slice Ao13 t256.length co13] 25 (0, 0)) (by (with_reducible repeat (first | refine blk_drewN ?_ _ | refine blk_drew ?_ | refine blk_alloc ?_ _)); exact BK250.out) hb)
    have n3_ := Aside0.mk (below_step (by repeat (first | (with_reducible first | exact HB.out | apply below_alloc | apply pw_below_drewN | apply below_drew1 | refine below_set ?_ GE250.out) | exact HB.out)) hb)
    clear HO255
    clear HO258
    clear BK250
    clear HB
    have HO255 := n0_
    have HO258 := n1_
    have BK250 := n2_
    have HB := n3_
    clear n0_ n1_ n2_ n3_
    (try clear hb)
    (try clear hb2)
    (try clear hk)
    (try clear hi)
    refine hK.out _ _ ⟨(blk_cell BK250.out 0).trans rfl, (blk_cell BK250.out 1).trans rfl, (blk_cell BK250.out 2).trans rfl⟩ (fun hHeld => ?_)
    clear hK K
    refine norm_ (a' := ?_) ?_ ?_
    rotate_left
    · show Act.put _ (some 10) _ = _
      simp only [Act.put, List.setIfInBounds_toArray, List.set_cons_zero, List.set_cons_succ, i64_w, i32_w]
      rfl
    refine one_ (i := 5) (N := some 12) #[true, true, true, true, true, true, false, false, false] rfl rfl (one_of HT_.out (by kernel_rfl)) (by decide) (fun K hK => ?_)
    refine goes_ Try.func12 (by kernel_rfl) rfl #[.agg #[.int .i64 t252, .slice Ao12 t253.length co12, .slice Ao13 t256.length co13]] (by rfl) rfl rfl (by (try simp only [List.map_toArray, List.map_cons, List.map_nil]); first | done | rfl | (simp only [List.length_drop, List.length_take]; rfl)) ?_
    with_reducible refine (cambiumref06_May.calls k t252 _ _ t253 _ _ t256 t260 _ ?side1 ?side2 ?side3 ?side4 A6.out).mono ?_
    (case side1 => repeat (first | exact (Kd.V_reads' HO255.out).2.2 | (with_reducible refine Kd.C_alloc ?_ _) | (with_reducible refine Kd.C_drewN ?_ _) | (with_reducible refine Kd.C_drew ?_)))
    (case side2 => exact (Kd.V_reads' HO255.out).2.1)
    (case side3 => repeat (first | exact (Kd.V_reads' HO258.out).2.2 | (with_reducible refine Kd.C_alloc ?_ _) | (with_reducible refine Kd.C_drewN ?_ _) | (with_reducible refine Kd.C_drew ?_)))
    (case side4 => exact (Kd.V_reads' HO258.out).2.1)
    rintro e w17 ⟨rfl, hb⟩
    refine ⟨_, rfl, ?_⟩
    have n0_ := Aside0.mk (Kd.V_below (by (with_reducible repeat (first | apply Kd.V_alloc | apply Kd.V_drewN | apply Kd.V_drew)); exact HO255.out) hb)
    have n1_ := Aside0.mk (Kd.V_below (by (with_reducible repeat (first | apply Kd.V_alloc | apply Kd.V_drewN | apply Kd.V_drew)); exact HO258.out) hb)
    have n2_ := Aside0.mk (blk_below (g := gb250) (o := .cells #[.int .i64 t252, .slice Ao12 t253.length co12, .slice Ao13 t256.length co13] 25 (0, 0)) (by (with_reducible repeat (first | refine blk_drewN ?_ _ | refine blk_drew ?_ | refine blk_alloc ?_ _)); exact BK250.out) hb)
    have n3_ := Aside0.mk (below_step (by repeat (first | (with_reducible first | exact HB.out | apply below_alloc | apply pw_below_drewN | apply below_drew1 | refine below_set ?_ GE250.out) | exact HB.out)) hb)
    clear HO255
    clear HO258
    clear BK250
    clear HB
    have HO255 := n0_
    have HO258 := n1_
    have BK250 := n2_
    have HB := n3_
    clear n0_ n1_ n2_ n3_
    (try clear hb)
    (try clear hb2)
    (try clear hk)
    (try clear hi)
    refine hK.out _ _ ⟨(blk_cell BK250.out 0).trans rfl, (blk_cell BK250.out 1).trans rfl, (blk_cell BK250.out 2).trans rfl⟩ (fun hHeld => ?_)
    clear hK K
    refine norm_ (a' := ?_) ?_ ?_
    rotate_left
    · show Act.put _ (some 12) _ = _
      simp only [Act.put, List.setIfInBounds_toArray, List.set_cons_zero, List.set_cons_succ, i64_w, i32_w]
      rfl
    refine pure_ (i := 6) (N := some 13) (v := ?_) (a' := ?_) #[true, true, true, true, true, true, true, false, false] rfl rfl (any_of HT_.out (by kernel_rfl)) (fun _ _ _ h => h) (Or.inl ⟨by rfl, ?_⟩) ?_ ?_
    rotate_left
    · intro w'
      go_simp
      with_reducible rfl
    rotate_left
    · simp only [Act.put, List.setIfInBounds_toArray, List.set_cons_zero, List.set_cons_succ, i64_w, i32_w]
      rfl
    refine pure_ (i := 7) (N := some 14) (v := ?_) (a' := ?_) #[true, true, true, true, true, true, true, true, false] rfl rfl (any_of HT_.out (by kernel_rfl)) (fun _ _ _ h => h) (Or.inl ⟨by rfl, ?_⟩) ?_ ?_
    rotate_left
    · intro w'
      go_simp
      with_reducible rfl
    rotate_left
    · simp only [Act.put, List.setIfInBounds_toArray, List.set_cons_zero, List.set_cons_succ, i64_w, i32_w]
      rfl
    refine pure_ (i := 8) (N := some 2) (v := ?_) (a' := ?_) #[true, true, true, true, true, true, true, true, true] rfl rfl (any_of HT_.out (by kernel_rfl)) (fun _ _ _ h => h) (Or.inl ⟨by rfl, ?_⟩) ?_ ?_
    rotate_left
    · intro w'
      go_simp
      with_reducible rfl
    rotate_left
    · simp only [Act.put, List.setIfInBounds_toArray, List.set_cons_zero, List.set_cons_succ, i64_w, i32_w]
      rfl
    refine done_ (done_of HT_.out (by kernel_rfl)) ?_
    try go_wp2
    go_ret
    exact ⟨by first | rfl | (simp [errW_none, errW_some] <;> rfl) | (simp [*, errW_none, errW_some] <;> rfl), by repeat (first | (with_reducible first | exact HB.out | apply below_alloc | apply pw_below_drewN | apply below_drew1 | refine below_set ?_ GE250.out) | exact HB.out)⟩
  · replace c4 := Bool.eq_false_iff.mpr c4
    subst c4
    have H1 : (some false) = some r := by rw [if_neg (show ¬ (false = true) by decide)] at H; exact H
    clear H
    have H := H1
    clear H1
    exact absurd (Option.some.inj H) (by rw [hr_.out]; decide)

/-- THE ONE PURE STATEMENT of cambiumlaw06_NodeMays: yours. -/
def cambiumlaw06_NodeMays.Pure : Prop := ∀ (a0_0 : Int) (l0_1 : List (S52)) (l0_2 : List (S57)), (Lit.int .i64 a0_0).wf = true → (l0_1.length ≤ maxLen ∧ ∀ y0_ ∈ l0_1, ((Lit.int .i64 y0_.f0.f0).wf = true ∧ (Lit.int .i64 y0_.f0.f1).wf = true ∧ (Lit.int .i64 y0_.f0.f2).wf = true ∧ (y0_.f1.length ≤ maxLen ∧ ∀ y1_ ∈ y0_.f1, (Lit.int .u8 y1_).wf = true))) → (l0_2.length ≤ maxLen ∧ ∀ y0_ ∈ l0_2, ((Lit.int .i64 y0_.f0.f0).wf = true ∧ (Lit.int .i64 y0_.f0.f1).wf = true ∧ (Lit.int .i64 y0_.f0.f2).wf = true ∧ (Lit.int .i64 y0_.f1).wf = true)) → ∃ k, cambiumlaw06_NodeMays.f k a0_0 l0_1 l0_2 = some true
theorem cambiumlaw06_NodeMays.walk (P : cambiumlaw06_NodeMays.Pure) (a0_0 : Int) (A0_1 : Option Addr) (c0_1 : Nat) (l0_1 : List (S52)) (A0_2 : Option Addr) (c0_2 : Nat) (l0_2 : List (S57)) (w : World) (w0_0 : (Lit.int .i64 a0_0).wf = true) (hr0_1 : Kd.C k52 w A0_1 l0_1.length l0_1) (hc0_1 : l0_1.length ≤ c0_1) (w0_1 : (l0_1.length ≤ maxLen ∧ ∀ y0_ ∈ l0_1, ((Lit.int .i64 y0_.f0.f0).wf = true ∧ (Lit.int .i64 y0_.f0.f1).wf = true ∧ (Lit.int .i64 y0_.f0.f2).wf = true ∧ (y0_.f1.length ≤ maxLen ∧ ∀ y1_ ∈ y0_.f1, (Lit.int .u8 y1_).wf = true)))) (hr0_2 : Kd.C k57 w A0_2 l0_2.length l0_2) (hc0_2 : l0_2.length ≤ c0_2) (w0_2 : (l0_2.length ≤ maxLen ∧ ∀ y0_ ∈ l0_2, ((Lit.int .i64 y0_.f0.f0).wf = true ∧ (Lit.int .i64 y0_.f0.f1).wf = true ∧ (Lit.int .i64 y0_.f0.f2).wf = true ∧ (Lit.int .i64 y0_.f1).wf = true))) :
    Calls Try.prog 3 #[.agg #[.int .i64 a0_0, .slice A0_1 l0_1.length c0_1, .slice A0_2 l0_2.length c0_2]] w fun e w' => e = .returned (.bool true) ∧ Below w.heap.size w w' := by
  obtain ⟨k, h⟩ := P a0_0 l0_1 l0_2 w0_0 w0_1 w0_2
  refine (cambiumlaw06_NodeMays.calls k a0_0 A0_1 c0_1 l0_1 A0_2 c0_2 l0_2 true w hr0_1 hc0_1 hr0_2 hc0_2 ⟨rfl⟩ h).mono ?_
  rintro e w' ⟨rfl, hd⟩
  exact ⟨rfl, hd⟩

end Go.Proofs.Ytcjnknpbikfimaa.P
