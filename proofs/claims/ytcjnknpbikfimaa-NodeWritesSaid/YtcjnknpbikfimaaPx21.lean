/- Functions and contracts, written by a program (mkprint.py, a wrapper of ours around the print); texts between GIVEN marks are ours. -/
import Derived.Test.YtcjnknpbikfimaaPx0
import Derived.Test.YtcjnknpbikfimaaPx18
import Derived.Test.YtcjnknpbikfimaaPx19
import Derived.Test.YtcjnknpbikfimaaPx20
namespace Go.Proofs.Ytcjnknpbikfimaa.P
open Go.RowKit Go.Proofs.YtcjnknpbikfimaaW.PrintWords Go.Proofs.YtcjnknpbikfimaaW.PrintLast Go.Proofs.YtcjnknpbikfimaaW.PrintMore
attribute [local go_sem] max2_int min2_int max_two min_two max_three min_three max_four min_four   -- for this text's walks alone
set_option linter.unusedVariables false
set_option linter.unusedSimpArgs false

/-! ### cambiumref04_Seal: function 37 -/
def cambiumref04_Seal.l0 : Nat → List Int → Option (List Int × Int)
 | 0, _ => none
 | k + 1, x7 => if (x7.length : Int) < 252 then (if x7.length < 140737488355328 then (cambiumref04_Seal.l0 k (x7 ++ [0])) else (none)) else ((cambiumref02_Sum.f k x7).bind fun t281 => ((cambiumref01_Put.f k ([] : List Int) (wrap64 (t281)) 4).bind fun t282 => (if t282.length + x7.length < 140737488355328 then (some ((t282 ++ x7), 0)) else (none))))
theorem cambiumref04_Seal.l0_succ (k : Nat) (x7 : List Int) : cambiumref04_Seal.l0 (k + 1) x7 = (if (x7.length : Int) < 252 then (if x7.length < 140737488355328 then (cambiumref04_Seal.l0 k (x7 ++ [0])) else (none)) else ((cambiumref02_Sum.f k x7).bind fun t281 => ((cambiumref01_Put.f k ([] : List Int) (wrap64 (t281)) 4).bind fun t282 => (if t282.length + x7.length < 140737488355328 then (some ((t282 ++ x7), 0)) else (none)))) : Option (List Int × Int)) := rfl
def cambiumref04_Seal.f (k : Nat) (a0_0 : Int) (a0_1 : Int) (a0_2 : Int) (a0_3 : Int) (a0_4 : Int) (l1 : List Int) : Option (List Int × Int) := (cambiumref04_May.f a0_0 a0_1 a0_2 a0_3 a0_4).bind fun t256 => (if t256 = true then (if (l1.length : Int) > 236 then (some (([] : List Int), 7)) else ((cambiumref01_Put.f k ([] : List Int) a0_0 1).bind fun t257 => ((cambiumref01_Put.f k t257 a0_3 1).bind fun t260 => ((cambiumref01_Put.f k t260 a0_1 2).bind fun t263 => ((cambiumref01_Put.f k t263 a0_2 2).bind fun t266 => ((cambiumref01_Put.f k t266 a0_4 5).bind fun t269 => ((cambiumref01_Put.f k t269 0 5).bind fun t272 => (if t272.length + l1.length < 140737488355328 then (cambiumref04_Seal.l0 k (t272 ++ l1)) else (none))))))))) else (some (([] : List Int), 1)))
theorem cambiumref04_Seal.mono_l : ∀ k, (∀ y0, LeO (cambiumref04_Seal.l0 k y0) (cambiumref04_Seal.l0 (k + 1) y0))
 | 0 => fun _ r h => absurd (show none = some r from h) (by simp)
 | k + 1 => by
  have ih0 := cambiumref04_Seal.mono_l k
  ·intro y0
   unfold cambiumref04_Seal.l0
   repeat' first
   | (with_reducible exact ih0 _)
   | (with_reducible exact cambiumref01_Put.mono _ _ _ _)
   | (with_reducible exact cambiumref02_Sum.mono _ _)
   | (with_reducible exact LeO.refl _)
   | (with_reducible exact LeO.none _)
   | (with_reducible refine LeO.ite ?_ ?_)
   | (with_reducible refine LeO.bind ?_ (fun _ => ?_))
   | exact ih0 _
   | exact cambiumref01_Put.mono _ _ _ _
   | exact cambiumref02_Sum.mono _ _
   | exact LeO.none _
   | refine LeO.ite ?_ ?_
   | refine LeO.bind ?_ (fun _ => ?_)
theorem cambiumref04_Seal.mono : ∀ a0 a1 a2 a3 a4 a5 k, LeO (cambiumref04_Seal.f k a0 a1 a2 a3 a4 a5) (cambiumref04_Seal.f (k + 1) a0 a1 a2 a3 a4 a5) := by
 intro a0 a1 a2 a3 a4 a5 k
 have ih0 := cambiumref04_Seal.mono_l k
 unfold cambiumref04_Seal.f
 repeat' first
   | (with_reducible exact ih0 _)
   | (with_reducible exact cambiumref01_Put.mono _ _ _ _)
   | (with_reducible exact cambiumref02_Sum.mono _ _)
   | (with_reducible exact LeO.refl _)
   | (with_reducible exact LeO.none _)
   | (with_reducible refine LeO.ite ?_ ?_)
   | (with_reducible refine LeO.bind ?_ (fun _ => ?_))
   | exact ih0 _
   | exact cambiumref01_Put.mono _ _ _ _
   | exact cambiumref02_Sum.mono _ _
   | exact LeO.none _
   | refine LeO.ite ?_ ?_
   | refine LeO.bind ?_ (fun _ => ?_)
set_option maxHeartbeats 8000000 in
set_option maxRecDepth 100000 in
theorem cambiumref04_Seal.calls (k : Nat) (a0_0 : Int) (a0_1 : Int) (a0_2 : Int) (a0_3 : Int) (a0_4 : Int) (A1 : Option Addr) (c1 : Nat) (l1 : List Int) (r1 : List Int) (r2 : Int) (w : World) (hr1 : Kd.C (Kd.int .u8) w A1 l1.length l1) (hc1 : l1.length ≤ c1) (h : cambiumref04_Seal.f k a0_0 a0_1 a0_2 a0_3 a0_4 l1 = some (r1, r2)) :
  Calls Try.prog 37 #[.agg #[.int .i64 a0_0, .int .i64 a0_1, .int .i64 a0_2, .int .i64 a0_3, .int .i64 a0_4], .slice A1 l1.length c1] w fun e w' => ∃ v0_ : Value, e = .returned (.tuple #[v0_, .int .i64 r2]) ∧ Kd.R (Kd.int .u8) 5 w' w.heap.size (fun _ => True) v0_ r1 ∧ Below w.heap.size w w' := by
 have hu62 := Try.underlying62
 have HR1 := Aside0.mk hr1
 have HC1 := Aside0.mk hc1
 clear hr1 hc1
 have HB := Aside0.mk (Below.refl w.heap.size w)
 have H : ((cambiumref04_May.f a0_0 a0_1 a0_2 a0_3 a0_4).bind fun t256 => (if t256 = true then (if (l1.length : Int) > 236 then (some (([] : List Int), 7)) else ((cambiumref01_Put.f k ([] : List Int) a0_0 1).bind fun t257 => ((cambiumref01_Put.f k t257 a0_3 1).bind fun t260 => ((cambiumref01_Put.f k t260 a0_1 2).bind fun t263 => ((cambiumref01_Put.f k t263 a0_2 2).bind fun t266 => ((cambiumref01_Put.f k t266 a0_4 5).bind fun t269 => ((cambiumref01_Put.f k t269 0 5).bind fun t272 => (if t272.length + l1.length < 140737488355328 then (cambiumref04_Seal.l0 k (t272 ++ l1)) else (none))))))))) else (some (([] : List Int), 1)))) = some (r1, r2) := h
 clear h
 replace H := Option.bind_eq_some_iff.mp H
 obtain ⟨t256, A30, H⟩ := H
 replace H : (if t256 = true then (if (l1.length : Int) > 236 then (some (([] : List Int), 7)) else ((cambiumref01_Put.f k ([] : List Int) a0_0 1).bind fun t257 => ((cambiumref01_Put.f k t257 a0_3 1).bind fun t260 => ((cambiumref01_Put.f k t260 a0_1 2).bind fun t263 => ((cambiumref01_Put.f k t263 a0_2 2).bind fun t266 => ((cambiumref01_Put.f k t266 a0_4 5).bind fun t269 => ((cambiumref01_Put.f k t269 0 5).bind fun t272 => (if t272.length + l1.length < 140737488355328 then (cambiumref04_Seal.l0 k (t272 ++ l1)) else (none))))))))) else (some (([] : List Int), 1))) = some (r1, r2) := H
 have A3 := Aside0.mk A30
 clear A30
 by_cases c4 : t256 = true
 ·subst c4
  have H1 : (if (l1.length : Int) > 236 then (some (([] : List Int), 7)) else ((cambiumref01_Put.f k ([] : List Int) a0_0 1).bind fun t257 => ((cambiumref01_Put.f k t257 a0_3 1).bind fun t260 => ((cambiumref01_Put.f k t260 a0_1 2).bind fun t263 => ((cambiumref01_Put.f k t263 a0_2 2).bind fun t266 => ((cambiumref01_Put.f k t266 a0_4 5).bind fun t269 => ((cambiumref01_Put.f k t269 0 5).bind fun t272 => (if t272.length + l1.length < 140737488355328 then (cambiumref04_Seal.l0 k (t272 ++ l1)) else (none))))))))) = some (r1, r2) := by rw [if_pos rfl] at H; exact H
  clear H
  have H := H1
  clear H1
  by_cases c5 : (l1.length : Int) > 236
  ·rw [if_pos c5] at H
   have c5b0 : decide (236 < (l1.length : Int)) = true := decide_eq_true c5
   have c5b1 : decide (236 < l1.length) = true := decide_eq_true (by omega)
   clear c5
   simp only [Option.some.injEq, Prod.mk.injEq] at H
   obtain ⟨rfl, rfl⟩ := H
   go_enter Try.func37, Try.ntmps37
   go_wp2_with (first | ((with_reducible refine gate_dst (N := 2) rfl ?_); refine box_event ?hg (N := 2) ?hd (cs := #[.int .i64 a0_0, .int .i64 a0_1, .int .i64 a0_2, .int .i64 a0_3, .int .i64 a0_4]) (t := 62) ?hr ?_; (case hd => rfl); (case hg => rfl); (case hr => first | (go_simp; done) | (go_simp; rfl)); intro gb255 hg w6 hbox hb; have n0_ := Aside0.mk (below_step q0_ hb); have n1_ := Aside0.mk (hbox); have n2_ := Aside0.mk ((by rw [hg]; exact (below_size q0_) : w.heap.size ≤ gb255)); have n3_ := Aside0.mk ((by rw [hg]; exact (below_size q0_) : w.heap.size ≤ gb255)); clear HB; have HB := n0_; have BK255 := n1_; have GW255 := n2_; have GE255 := n3_; clear n0_ n1_ n2_ n3_; clear hb hbox hg; have hcz7_0 : w6.cell? ⟨gb255, 0, none⟩ = some (.int .i64 a0_0) := (blk_cell BK255.out 0).trans rfl; have hcz7_1 : w6.cell? ⟨gb255, 1, none⟩ = some (.int .i64 a0_1) := (blk_cell BK255.out 1).trans rfl; have hcz7_2 : w6.cell? ⟨gb255, 2, none⟩ = some (.int .i64 a0_2) := (blk_cell BK255.out 2).trans rfl; have hcz7_3 : w6.cell? ⟨gb255, 3, none⟩ = some (.int .i64 a0_3) := (blk_cell BK255.out 3).trans rfl; have hcz7_4 : w6.cell? ⟨gb255, 4, none⟩ = some (.int .i64 a0_4) := (blk_cell BK255.out 4).trans rfl; have hfz7_0 := blk_frozen BK255.out 0; have hfz7_1 := blk_frozen BK255.out 1; have hfz7_2 := blk_frozen BK255.out 2; have hfz7_3 := blk_frozen BK255.out 3; have hfz7_4 := blk_frozen BK255.out 4) | ((with_reducible refine gate_callee (f := 56) rfl ?_); refine goesL_ (some 9) rfl rfl Try.func56 q8_ rfl #[.agg #[.int .i64 a0_0, .int .i64 a0_1, .int .i64 a0_2, .int .i64 a0_3, .int .i64 a0_4]] rfl q1_ ?_; (with_reducible refine (cambiumref04_May.calls a0_0 a0_1 a0_2 a0_3 a0_4 true _ A3.out).mono ?_); rintro e w8 ⟨rfl, hb⟩; refine ⟨_, rfl, ?_⟩; have n0_ := Aside0.mk (blk_below (g := gb255) (o := .cells #[.int .i64 a0_0, .int .i64 a0_1, .int .i64 a0_2, .int .i64 a0_3, .int .i64 a0_4] 62 (0, 0)) q72_ hb); have n1_ := Aside0.mk (below_step q19_ hb); clear BK255; clear HB; have BK255 := n0_; have HB := n1_; clear n0_ n1_; (try clear hb); (try clear hb2); (try clear hk); (try clear hi)))
   go_ret2
   exact ⟨_, by first | rfl | (simp [errW_none, errW_some] <;> rfl) | (simp [*, errW_none, errW_some] <;> rfl), by first | exact Kd.R_nil _ _ _ _ _ | exact Kd.N_nil _ _ _ _ _ | exact Kd.V_nil _ _ _ _ _ | exact Kd.Q_nil _ _ _ _ _ | exact Kd.S_nil _ _ _ _ _, by repeat (first | (with_reducible first | exact HB.out | apply below_alloc | apply pw_below_drewN | apply below_drew1 | refine below_set ?_ GE255.out) | exact HB.out)⟩
  ·rw [if_neg c5] at H
   have c5b0 : decide (236 < (l1.length : Int)) = false := decide_eq_false c5
   have c5b1 : decide (236 < l1.length) = false := decide_eq_false (by omega)
   clear c5
   replace H := Option.bind_eq_some_iff.mp H
   obtain ⟨t257, A90, H⟩ := H
   replace H : ((cambiumref01_Put.f k t257 a0_3 1).bind fun t260 => ((cambiumref01_Put.f k t260 a0_1 2).bind fun t263 => ((cambiumref01_Put.f k t263 a0_2 2).bind fun t266 => ((cambiumref01_Put.f k t266 a0_4 5).bind fun t269 => ((cambiumref01_Put.f k t269 0 5).bind fun t272 => (if t272.length + l1.length < 140737488355328 then (cambiumref04_Seal.l0 k (t272 ++ l1)) else (none))))))) = some (r1, r2) := H
   have A9 := Aside0.mk A90
   clear A90
   replace H := Option.bind_eq_some_iff.mp H
   obtain ⟨t260, A100, H⟩ := H
   replace H : ((cambiumref01_Put.f k t260 a0_1 2).bind fun t263 => ((cambiumref01_Put.f k t263 a0_2 2).bind fun t266 => ((cambiumref01_Put.f k t266 a0_4 5).bind fun t269 => ((cambiumref01_Put.f k t269 0 5).bind fun t272 => (if t272.length + l1.length < 140737488355328 then (cambiumref04_Seal.l0 k (t272 ++ l1)) else (none)))))) = some (r1, r2) := H
   have A10 := Aside0.mk A100
   clear A100
   replace H := Option.bind_eq_some_iff.mp H
   obtain ⟨t263, A110, H⟩ := H
   replace H : ((cambiumref01_Put.f k t263 a0_2 2).bind fun t266 => ((cambiumref01_Put.f k t266 a0_4 5).bind fun t269 => ((cambiumref01_Put.f k t269 0 5).bind fun t272 => (if t272.length + l1.length < 140737488355328 then (cambiumref04_Seal.l0 k (t272 ++ l1)) else (none))))) = some (r1, r2) := H
   have A11 := Aside0.mk A110
   clear A110
   replace H := Option.bind_eq_some_iff.mp H
   obtain ⟨t266, A120, H⟩ := H
   replace H : ((cambiumref01_Put.f k t266 a0_4 5).bind fun t269 => ((cambiumref01_Put.f k t269 0 5).bind fun t272 => (if t272.length + l1.length < 140737488355328 then (cambiumref04_Seal.l0 k (t272 ++ l1)) else (none)))) = some (r1, r2) := H
   have A12 := Aside0.mk A120
   clear A120
   replace H := Option.bind_eq_some_iff.mp H
   obtain ⟨t269, A130, H⟩ := H
   replace H : ((cambiumref01_Put.f k t269 0 5).bind fun t272 => (if t272.length + l1.length < 140737488355328 then (cambiumref04_Seal.l0 k (t272 ++ l1)) else (none))) = some (r1, r2) := H
   have A13 := Aside0.mk A130
   clear A130
   replace H := Option.bind_eq_some_iff.mp H
   obtain ⟨t272, A140, H⟩ := H
   replace H : (if t272.length + l1.length < 140737488355328 then (cambiumref04_Seal.l0 k (t272 ++ l1)) else (none)) = some (r1, r2) := H
   have A14 := Aside0.mk A140
   clear A140
   by_cases c15 : t272.length + l1.length < 140737488355328
   ·rw [if_pos c15] at H
    have LMc15 := Aside0.mk c15
    clear c15
    obtain ⟨y275, hy275⟩ : ∃ y_ : List Int, y_ = (t272 ++ l1) := ⟨_, rfl⟩
    replace H : (cambiumref04_Seal.l0 k y275) = some (r1, r2) := by first | (rw [hy275]; with_reducible exact H) | (have H2_ := (Option.bind_some _ _).symm.trans H; rw [hy275]; with_reducible exact H2_) | (have H2_ := (Option.bind_some _ _).symm.trans H; with_reducible exact H2_) | with_reducible exact H | (rw [hy275]; exact H) | exact H
    have Ny275 := Aside0.mk hy275
    clear hy275
    have H' := Aside0.mk H
    clear H
    go_enter Try.func37, Try.ntmps37
    go_wp2_with (first | ((with_reducible refine gate_dst (N := 2) rfl ?_); refine box_event ?hg (N := 2) ?hd (cs := #[.int .i64 a0_0, .int .i64 a0_1, .int .i64 a0_2, .int .i64 a0_3, .int .i64 a0_4]) (t := 62) ?hr ?_; (case hd => rfl); (case hg => rfl); (case hr => first | (go_simp; done) | (go_simp; rfl)); intro gb255 hg w16 hbox hb; have n0_ := Aside0.mk (below_step q0_ hb); have n1_ := Aside0.mk (hbox); have n2_ := Aside0.mk ((by rw [hg]; exact (below_size q0_) : w.heap.size ≤ gb255)); have n3_ := Aside0.mk ((by rw [hg]; exact (below_size q0_) : w.heap.size ≤ gb255)); clear HB; have HB := n0_; have BK255 := n1_; have GW255 := n2_; have GE255 := n3_; clear n0_ n1_ n2_ n3_; clear hb hbox hg; have hcz17_0 : w16.cell? ⟨gb255, 0, none⟩ = some (.int .i64 a0_0) := (blk_cell BK255.out 0).trans rfl; have hcz17_1 : w16.cell? ⟨gb255, 1, none⟩ = some (.int .i64 a0_1) := (blk_cell BK255.out 1).trans rfl; have hcz17_2 : w16.cell? ⟨gb255, 2, none⟩ = some (.int .i64 a0_2) := (blk_cell BK255.out 2).trans rfl; have hcz17_3 : w16.cell? ⟨gb255, 3, none⟩ = some (.int .i64 a0_3) := (blk_cell BK255.out 3).trans rfl; have hcz17_4 : w16.cell? ⟨gb255, 4, none⟩ = some (.int .i64 a0_4) := (blk_cell BK255.out 4).trans rfl; have hfz17_0 := blk_frozen BK255.out 0; have hfz17_1 := blk_frozen BK255.out 1; have hfz17_2 := blk_frozen BK255.out 2; have hfz17_3 := blk_frozen BK255.out 3; have hfz17_4 := blk_frozen BK255.out 4) | ((with_reducible refine gate_callee (f := 56) rfl ?_); refine goesL_ (some 9) rfl rfl Try.func56 q8_ rfl #[.agg #[.int .i64 a0_0, .int .i64 a0_1, .int .i64 a0_2, .int .i64 a0_3, .int .i64 a0_4]] rfl q1_ ?_; (with_reducible refine (cambiumref04_May.calls a0_0 a0_1 a0_2 a0_3 a0_4 true _ A3.out).mono ?_); rintro e w18 ⟨rfl, hb⟩; refine ⟨_, rfl, ?_⟩; have n0_ := Aside0.mk (blk_below (g := gb255) (o := .cells #[.int .i64 a0_0, .int .i64 a0_1, .int .i64 a0_2, .int .i64 a0_3, .int .i64 a0_4] 62 (0, 0)) q72_ hb); have n1_ := Aside0.mk (below_step q19_ hb); clear BK255; clear HB; have BK255 := n0_; have HB := n1_; clear n0_ n1_; (try clear hb); (try clear hb2); (try clear hk); (try clear hi); have hcz19_0 : w18.cell? ⟨gb255, 0, none⟩ = some (.int .i64 a0_0) := (blk_cell BK255.out 0).trans rfl; have hcz19_1 : w18.cell? ⟨gb255, 1, none⟩ = some (.int .i64 a0_1) := (blk_cell BK255.out 1).trans rfl; have hcz19_2 : w18.cell? ⟨gb255, 2, none⟩ = some (.int .i64 a0_2) := (blk_cell BK255.out 2).trans rfl; have hcz19_3 : w18.cell? ⟨gb255, 3, none⟩ = some (.int .i64 a0_3) := (blk_cell BK255.out 3).trans rfl; have hcz19_4 : w18.cell? ⟨gb255, 4, none⟩ = some (.int .i64 a0_4) := (blk_cell BK255.out 4).trans rfl; have hfz19_0 := blk_frozen BK255.out 0; have hfz19_1 := blk_frozen BK255.out 1; have hfz19_2 := blk_frozen BK255.out 2; have hfz19_3 := blk_frozen BK255.out 3; have hfz19_4 := blk_frozen BK255.out 4) | ((with_reducible refine gate_callee (f := 36) rfl ?_); refine goesL_ (some 17) rfl rfl Try.func36 q8_ rfl #[.slice none 0 0, .int .i64 a0_0, .int .i64 1] rfl q1_ ?_; (refine (cambiumref01_Put.calls k _ _ ([] : List Int) a0_0 1 t257 _ ?side1 ?side2 A9.out).mono ?_); (case side1 => exact Kd.C_nil _ _); (case side2 => exact Nat.le_refl _); rintro e w20 ⟨v258, rfl, ho0, hb⟩; refine ⟨_, rfl, ?_⟩; have n0_ := Aside0.mk (Kd.R_lower ho0 (below_size q19_)); have n1_ := Aside0.mk (blk_below (g := gb255) (o := .cells #[.int .i64 a0_0, .int .i64 a0_1, .int .i64 a0_2, .int .i64 a0_3, .int .i64 a0_4] 62 (0, 0)) q72_ hb); have n2_ := Aside0.mk (below_step q19_ hb); clear BK255; clear HB; have HO259 := n0_; have BK255 := n1_; have HB := n2_; clear n0_ n1_ n2_; (try clear hb); (try clear hb2); (try clear hk); (try clear hi); (try clear ho0); have hcz21_0 : w20.cell? ⟨gb255, 0, none⟩ = some (.int .i64 a0_0) := (blk_cell BK255.out 0).trans rfl; have hcz21_1 : w20.cell? ⟨gb255, 1, none⟩ = some (.int .i64 a0_1) := (blk_cell BK255.out 1).trans rfl; have hcz21_2 : w20.cell? ⟨gb255, 2, none⟩ = some (.int .i64 a0_2) := (blk_cell BK255.out 2).trans rfl; have hcz21_3 : w20.cell? ⟨gb255, 3, none⟩ = some (.int .i64 a0_3) := (blk_cell BK255.out 3).trans rfl; have hcz21_4 : w20.cell? ⟨gb255, 4, none⟩ = some (.int .i64 a0_4) := (blk_cell BK255.out 4).trans rfl; have hfz21_0 := blk_frozen BK255.out 0; have hfz21_1 := blk_frozen BK255.out 1; have hfz21_2 := blk_frozen BK255.out 2; have hfz21_3 := blk_frozen BK255.out 3; have hfz21_4 := blk_frozen BK255.out 4; obtain ⟨Ao22, co22, eo22⟩ := Kd.R_slice HO259.out; subst eo22) | ((with_reducible refine gate_callee (f := 36) rfl ?_); refine goesL_ (some 21) rfl rfl Try.func36 q8_ rfl #[.slice Ao22 t257.length co22, .int .i64 a0_3, .int .i64 1] rfl q1_ ?_; (with_reducible refine (cambiumref01_Put.calls k _ _ t257 a0_3 1 t260 _ ?side1 ?side2 A10.out).mono ?_); (case side1 => repeat (first | exact (Kd.R_reads' HO259.out).2.2 | (with_reducible refine Kd.C_alloc ?_ _) | (with_reducible refine Kd.C_drewN ?_ _) | (with_reducible refine Kd.C_drew ?_))); (case side2 => exact (Kd.R_reads' HO259.out).2.1); rintro e w23 ⟨v261, rfl, ho0, hb⟩; refine ⟨_, rfl, ?_⟩; have n0_ := Aside0.mk (Kd.R_elder' q107_ (Kd.R_base ho0) hb); have n1_ := Aside0.mk (Kd.R_lower (Kd.R_new' ho0 (Kd.R_lt q107_)) (below_size q19_)); have n2_ := Aside0.mk (blk_below (g := gb255) (o := .cells #[.int .i64 a0_0, .int .i64 a0_1, .int .i64 a0_2, .int .i64 a0_3, .int .i64 a0_4] 62 (0, 0)) q72_ hb); have n3_ := Aside0.mk (below_step q19_ hb); clear HO259; clear BK255; clear HB; have HO259 := n0_; have HO262 := n1_; have BK255 := n2_; have HB := n3_; clear n0_ n1_ n2_ n3_; (try clear hb); (try clear hb2); (try clear hk); (try clear hi); (try clear ho0); have hcz24_0 : w23.cell? ⟨gb255, 0, none⟩ = some (.int .i64 a0_0) := (blk_cell BK255.out 0).trans rfl; have hcz24_1 : w23.cell? ⟨gb255, 1, none⟩ = some (.int .i64 a0_1) := (blk_cell BK255.out 1).trans rfl; have hcz24_2 : w23.cell? ⟨gb255, 2, none⟩ = some (.int .i64 a0_2) := (blk_cell BK255.out 2).trans rfl; have hcz24_3 : w23.cell? ⟨gb255, 3, none⟩ = some (.int .i64 a0_3) := (blk_cell BK255.out 3).trans rfl; have hcz24_4 : w23.cell? ⟨gb255, 4, none⟩ = some (.int .i64 a0_4) := (blk_cell BK255.out 4).trans rfl; have hfz24_0 := blk_frozen BK255.out 0; have hfz24_1 := blk_frozen BK255.out 1; have hfz24_2 := blk_frozen BK255.out 2; have hfz24_3 := blk_frozen BK255.out 3; have hfz24_4 := blk_frozen BK255.out 4; obtain ⟨Ao25, co25, eo25⟩ := Kd.R_slice HO262.out; subst eo25) | ((with_reducible refine gate_callee (f := 36) rfl ?_); refine goesL_ (some 25) rfl rfl Try.func36 q8_ rfl #[.slice Ao25 t260.length co25, .int .i64 a0_1, .int .i64 2] rfl q1_ ?_; (with_reducible refine (cambiumref01_Put.calls k _ _ t260 a0_1 2 t263 _ ?side1 ?side2 A11.out).mono ?_); (case side1 => repeat (first | exact (Kd.R_reads' HO262.out).2.2 | (with_reducible refine Kd.C_alloc ?_ _) | (with_reducible refine Kd.C_drewN ?_ _) | (with_reducible refine Kd.C_drew ?_))); (case side2 => exact (Kd.R_reads' HO262.out).2.1); rintro e w26 ⟨v264, rfl, ho0, hb⟩; refine ⟨_, rfl, ?_⟩; have n0_ := Aside0.mk (Kd.R_elder' q107_ (Kd.R_base ho0) hb); have n1_ := Aside0.mk (Kd.R_elder' q117_ (Kd.R_base ho0) hb); have n2_ := Aside0.mk (Kd.R_lower (Kd.R_new' (Kd.R_new' ho0 (Kd.R_lt q107_)) (Kd.R_lt q117_)) (below_size q19_)); have n3_ := Aside0.mk (blk_below (g := gb255) (o := .cells #[.int .i64 a0_0, .int .i64 a0_1, .int .i64 a0_2, .int .i64 a0_3, .int .i64 a0_4] 62 (0, 0)) q72_ hb); have n4_ := Aside0.mk (below_step q19_ hb); clear HO259; clear HO262; clear BK255; clear HB; have HO259 := n0_; have HO262 := n1_; have HO265 := n2_; have BK255 := n3_; have HB := n4_; clear n0_ n1_ n2_ n3_ n4_; (try clear hb); (try clear hb2); (try clear hk); (try clear hi); (try clear ho0); have hcz27_0 : w26.cell? ⟨gb255, 0, none⟩ = some (.int .i64 a0_0) := (blk_cell BK255.out 0).trans rfl; have hcz27_1 : w26.cell? ⟨gb255, 1, none⟩ = some (.int .i64 a0_1) := (blk_cell BK255.out 1).trans rfl; have hcz27_2 : w26.cell? ⟨gb255, 2, none⟩ = some (.int .i64 a0_2) := (blk_cell BK255.out 2).trans rfl; have hcz27_3 : w26.cell? ⟨gb255, 3, none⟩ = some (.int .i64 a0_3) := (blk_cell BK255.out 3).trans rfl; have hcz27_4 : w26.cell? ⟨gb255, 4, none⟩ = some (.int .i64 a0_4) := (blk_cell BK255.out 4).trans rfl; have hfz27_0 := blk_frozen BK255.out 0; have hfz27_1 := blk_frozen BK255.out 1; have hfz27_2 := blk_frozen BK255.out 2; have hfz27_3 := blk_frozen BK255.out 3; have hfz27_4 := blk_frozen BK255.out 4; obtain ⟨Ao28, co28, eo28⟩ := Kd.R_slice HO265.out; subst eo28) | ((with_reducible refine gate_callee (f := 36) rfl ?_); refine goesL_ (some 29) rfl rfl Try.func36 q8_ rfl #[.slice Ao28 t263.length co28, .int .i64 a0_2, .int .i64 2] rfl q1_ ?_; (with_reducible refine (cambiumref01_Put.calls k _ _ t263 a0_2 2 t266 _ ?side1 ?side2 A12.out).mono ?_); (case side1 => repeat (first | exact (Kd.R_reads' HO265.out).2.2 | (with_reducible refine Kd.C_alloc ?_ _) | (with_reducible refine Kd.C_drewN ?_ _) | (with_reducible refine Kd.C_drew ?_))); (case side2 => exact (Kd.R_reads' HO265.out).2.1); rintro e w29 ⟨v267, rfl, ho0, hb⟩; refine ⟨_, rfl, ?_⟩; have n0_ := Aside0.mk (Kd.R_elder' q107_ (Kd.R_base ho0) hb); have n1_ := Aside0.mk (Kd.R_elder' q117_ (Kd.R_base ho0) hb); have n2_ := Aside0.mk (Kd.R_elder' q148_ (Kd.R_base ho0) hb); have n3_ := Aside0.mk (Kd.R_lower (Kd.R_new' (Kd.R_new' (Kd.R_new' ho0 (Kd.R_lt q107_)) (Kd.R_lt q117_)) (Kd.R_lt q148_)) (below_size q19_)); have n4_ := Aside0.mk (blk_below (g := gb255) (o := .cells #[.int .i64 a0_0, .int .i64 a0_1, .int .i64 a0_2, .int .i64 a0_3, .int .i64 a0_4] 62 (0, 0)) q72_ hb); have n5_ := Aside0.mk (below_step q19_ hb); clear HO259; clear HO262; clear HO265; clear BK255; clear HB; have HO259 := n0_; have HO262 := n1_; have HO265 := n2_; have HO268 := n3_; have BK255 := n4_; have HB := n5_; clear n0_ n1_ n2_ n3_ n4_ n5_; (try clear hb); (try clear hb2); (try clear hk); (try clear hi); (try clear ho0); have hcz30_0 : w29.cell? ⟨gb255, 0, none⟩ = some (.int .i64 a0_0) := (blk_cell BK255.out 0).trans rfl; have hcz30_1 : w29.cell? ⟨gb255, 1, none⟩ = some (.int .i64 a0_1) := (blk_cell BK255.out 1).trans rfl; have hcz30_2 : w29.cell? ⟨gb255, 2, none⟩ = some (.int .i64 a0_2) := (blk_cell BK255.out 2).trans rfl; have hcz30_3 : w29.cell? ⟨gb255, 3, none⟩ = some (.int .i64 a0_3) := (blk_cell BK255.out 3).trans rfl; have hcz30_4 : w29.cell? ⟨gb255, 4, none⟩ = some (.int .i64 a0_4) := (blk_cell BK255.out 4).trans rfl; have hfz30_0 := blk_frozen BK255.out 0; have hfz30_1 := blk_frozen BK255.out 1; have hfz30_2 := blk_frozen BK255.out 2; have hfz30_3 := blk_frozen BK255.out 3; have hfz30_4 := blk_frozen BK255.out 4; obtain ⟨Ao31, co31, eo31⟩ := Kd.R_slice HO268.out; subst eo31) | ((with_reducible refine gate_callee (f := 36) rfl ?_); refine goesL_ (some 33) rfl rfl Try.func36 q8_ rfl #[.slice Ao31 t266.length co31, .int .i64 a0_4, .int .i64 5] rfl q1_ ?_; (with_reducible refine (cambiumref01_Put.calls k _ _ t266 a0_4 5 t269 _ ?side1 ?side2 A13.out).mono ?_); (case side1 => repeat (first | exact (Kd.R_reads' HO268.out).2.2 | (with_reducible refine Kd.C_alloc ?_ _) | (with_reducible refine Kd.C_drewN ?_ _) | (with_reducible refine Kd.C_drew ?_))); (case side2 => exact (Kd.R_reads' HO268.out).2.1); rintro e w32 ⟨v270, rfl, ho0, hb⟩; refine ⟨_, rfl, ?_⟩; have n0_ := Aside0.mk (Kd.R_elder' q107_ (Kd.R_base ho0) hb); have n1_ := Aside0.mk (Kd.R_elder' q117_ (Kd.R_base ho0) hb); have n2_ := Aside0.mk (Kd.R_elder' q148_ (Kd.R_base ho0) hb); have n3_ := Aside0.mk (Kd.R_elder' q215_ (Kd.R_base ho0) hb); have n4_ := Aside0.mk (Kd.R_lower (Kd.R_new' (Kd.R_new' (Kd.R_new' (Kd.R_new' ho0 (Kd.R_lt q107_)) (Kd.R_lt q117_)) (Kd.R_lt q148_)) (Kd.R_lt q215_)) (below_size q19_)); have n5_ := Aside0.mk (blk_below (g := gb255) (o := .cells #[.int .i64 a0_0, .int .i64 a0_1, .int .i64 a0_2, .int .i64 a0_3, .int .i64 a0_4] 62 (0, 0)) q72_ hb); have n6_ := Aside0.mk (below_step q19_ hb); clear HO259; clear HO262; clear HO265; clear HO268; clear BK255; clear HB; have HO259 := n0_; have HO262 := n1_; have HO265 := n2_; have HO268 := n3_; have HO271 := n4_; have BK255 := n5_; have HB := n6_; clear n0_ n1_ n2_ n3_ n4_ n5_ n6_; (try clear hb); (try clear hb2); (try clear hk); (try clear hi); (try clear ho0); obtain ⟨Ao33, co33, eo33⟩ := Kd.R_slice HO271.out; subst eo33) | ((with_reducible refine gate_callee (f := 36) rfl ?_); refine goesL_ (some 35) rfl rfl Try.func36 q8_ rfl #[.slice Ao33 t269.length co33, .int .i64 0, .int .i64 5] rfl q1_ ?_; (with_reducible refine (cambiumref01_Put.calls k _ _ t269 0 5 t272 _ ?side1 ?side2 A14.out).mono ?_); (case side1 => repeat (first | exact (Kd.R_reads' HO271.out).2.2 | (with_reducible refine Kd.C_alloc ?_ _) | (with_reducible refine Kd.C_drewN ?_ _) | (with_reducible refine Kd.C_drew ?_))); (case side2 => exact (Kd.R_reads' HO271.out).2.1); rintro e w34 ⟨v273, rfl, ho0, hb⟩; refine ⟨_, rfl, ?_⟩; have n0_ := Aside0.mk (Kd.R_elder' q107_ (Kd.R_base ho0) hb); have n1_ := Aside0.mk (Kd.R_elder' q117_ (Kd.R_base ho0) hb); have n2_ := Aside0.mk (Kd.R_elder' q148_ (Kd.R_base ho0) hb); have n3_ := Aside0.mk (Kd.R_elder' q215_ (Kd.R_base ho0) hb); have n4_ := Aside0.mk (Kd.R_elder' (by (with_reducible repeat (first | apply Kd.R_alloc | apply Kd.R_drewN | apply Kd.R_drew)); exact HO271.out) (Kd.R_base ho0) hb); have n5_ := Aside0.mk (Kd.R_lower (Kd.R_new' (Kd.R_new' (Kd.R_new' (Kd.R_new' (Kd.R_new' ho0 (Kd.R_lt q107_)) (Kd.R_lt q117_)) (Kd.R_lt q148_)) (Kd.R_lt q215_)) (Kd.R_lt (by (with_reducible repeat (first | apply Kd.R_alloc | apply Kd.R_drewN | apply Kd.R_drew)); exact HO271.out))) (below_size q19_)); have n6_ := Aside0.mk (blk_below (g := gb255) (o := .cells #[.int .i64 a0_0, .int .i64 a0_1, .int .i64 a0_2, .int .i64 a0_3, .int .i64 a0_4] 62 (0, 0)) q72_ hb); have n7_ := Aside0.mk (below_step q19_ hb); clear HO259; clear HO262; clear HO265; clear HO268; clear HO271; clear BK255; clear HB; have HO259 := n0_; have HO262 := n1_; have HO265 := n2_; have HO268 := n3_; have HO271 := n4_; have HO274 := n5_; have BK255 := n6_; have HB := n7_; clear n0_ n1_ n2_ n3_ n4_ n5_ n6_ n7_; (try clear hb); (try clear hb2); (try clear hk); (try clear hi); (try clear ho0)) | ((with_reducible refine gate_builtin (b := .append) (xs := #[.tmp 36, .tmp 37]) rfl ?_); at_builtin; refine Kd.R_append_rows (Kd.int .u8) (w0 := w) w.heap.size rfl (.tmp 36) (.tmp 37) 29 5 (.int .u8 0) 1 rfl Try.underlying29 info5 rfl q210_ (by omega) v273 t272 l1 _ _ _ (fun k_ => some k_ ≠ (.slice Ao22 t257.length co22 : Value).ownBlock ∧ some k_ ≠ (.slice Ao25 t260.length co25 : Value).ownBlock ∧ some k_ ≠ (.slice Ao28 t263.length co28 : Value).ownBlock ∧ some k_ ≠ (.slice Ao31 t266.length co31 : Value).ownBlock ∧ some k_ ≠ (.slice Ao33 t269.length co33 : Value).ownBlock) (fun _ => False) rfl rfl ?aO ?aR (fun _ _ h => h) (fun _ h => h.elim) ?aF ?aB ?aS ?aL ?_; (case aR => repeat (first | exact (Kd.C_below HR1.out HB.out) | (with_reducible refine Kd.C_alloc ?_ _) | (with_reducible refine Kd.C_drewN ?_ _) | (with_reducible refine Kd.C_drew ?_))); (case aB => exact q19_); (case aF => exact (fun k_ hk => ⟨Kd.fresh' (Kd.R_lt q107_) k_ hk, Kd.fresh' (Kd.R_lt q117_) k_ hk, Kd.fresh' (Kd.R_lt q148_) k_ hk, Kd.fresh' (Kd.R_lt q215_) k_ hk, Kd.fresh' (Kd.R_lt (by (with_reducible repeat (first | apply Kd.R_alloc | apply Kd.R_drewN | apply Kd.R_drew)); exact HO271.out)) k_ hk⟩)); (case aO => exact (by (with_reducible repeat (first | apply Kd.R_alloc | apply Kd.R_drewN | apply Kd.R_drew)); exact Kd.R_mono HO274.out (fun _ hk => ⟨hk.1.1.1.1.2, ⟨hk.1.1.1.2, ⟨hk.1.1.2, ⟨hk.1.2, hk.2⟩⟩⟩⟩))); (case aS => exact (below_size q19_)); (case aL => have := LMc15.out; omega); intro v276 w35 ho hb hg hat; rw [← Ny275.out] at ho; have n0_ := Aside0.mk (blk_grown (g := gb255) (o := .cells #[.int .i64 a0_0, .int .i64 a0_1, .int .i64 a0_2, .int .i64 a0_3, .int .i64 a0_4] 62 (0, 0)) q72_ hg (Kd.R_ne HO274.out BK255.out q210_)); have n1_ := Aside0.mk (Kd.R_after (ok := (fun k_ => some k_ ≠ (.slice Ao25 t260.length co25 : Value).ownBlock ∧ some k_ ≠ (.slice Ao28 t263.length co28 : Value).ownBlock ∧ some k_ ≠ (.slice Ao31 t266.length co31 : Value).ownBlock ∧ some k_ ≠ (.slice Ao33 t269.length co33 : Value).ownBlock)) (by (with_reducible repeat (first | apply Kd.R_alloc | apply Kd.R_drewN | apply Kd.R_drew)); exact Kd.R_mono HO259.out (fun _ hk => ⟨⟨hk.1.1.1.1.2, ⟨hk.1.1.1.2, ⟨hk.1.1.2, hk.1.2⟩⟩⟩, hk.2⟩)) hg hat); have n2_ := Aside0.mk (Kd.R_after (ok := (fun k_ => some k_ ≠ (.slice Ao22 t257.length co22 : Value).ownBlock ∧ some k_ ≠ (.slice Ao28 t263.length co28 : Value).ownBlock ∧ some k_ ≠ (.slice Ao31 t266.length co31 : Value).ownBlock ∧ some k_ ≠ (.slice Ao33 t269.length co33 : Value).ownBlock)) (by (with_reducible repeat (first | apply Kd.R_alloc | apply Kd.R_drewN | apply Kd.R_drew)); exact Kd.R_mono HO262.out (fun _ hk => ⟨⟨hk.1.1.1.1.2, ⟨hk.1.1.1.2, ⟨hk.1.1.2, hk.1.2⟩⟩⟩, hk.2⟩)) hg hat); have n3_ := Aside0.mk (Kd.R_after (ok := (fun k_ => some k_ ≠ (.slice Ao22 t257.length co22 : Value).ownBlock ∧ some k_ ≠ (.slice Ao25 t260.length co25 : Value).ownBlock ∧ some k_ ≠ (.slice Ao31 t266.length co31 : Value).ownBlock ∧ some k_ ≠ (.slice Ao33 t269.length co33 : Value).ownBlock)) (by (with_reducible repeat (first | apply Kd.R_alloc | apply Kd.R_drewN | apply Kd.R_drew)); exact Kd.R_mono HO265.out (fun _ hk => ⟨⟨hk.1.1.1.1.2, ⟨hk.1.1.1.2, ⟨hk.1.1.2, hk.1.2⟩⟩⟩, hk.2⟩)) hg hat); have n4_ := Aside0.mk (Kd.R_after (ok := (fun k_ => some k_ ≠ (.slice Ao22 t257.length co22 : Value).ownBlock ∧ some k_ ≠ (.slice Ao25 t260.length co25 : Value).ownBlock ∧ some k_ ≠ (.slice Ao28 t263.length co28 : Value).ownBlock ∧ some k_ ≠ (.slice Ao33 t269.length co33 : Value).ownBlock)) (by (with_reducible repeat (first | apply Kd.R_alloc | apply Kd.R_drewN | apply Kd.R_drew)); exact Kd.R_mono HO268.out (fun _ hk => ⟨⟨hk.1.1.1.1.2, ⟨hk.1.1.1.2, ⟨hk.1.1.2, hk.1.2⟩⟩⟩, hk.2⟩)) hg hat); have n5_ := Aside0.mk (Kd.R_after (ok := (fun k_ => some k_ ≠ (.slice Ao22 t257.length co22 : Value).ownBlock ∧ some k_ ≠ (.slice Ao25 t260.length co25 : Value).ownBlock ∧ some k_ ≠ (.slice Ao28 t263.length co28 : Value).ownBlock ∧ some k_ ≠ (.slice Ao31 t266.length co31 : Value).ownBlock)) (by (with_reducible repeat (first | apply Kd.R_alloc | apply Kd.R_drewN | apply Kd.R_drew)); exact Kd.R_mono HO271.out (fun _ hk => ⟨⟨hk.1.1.1.1.2, ⟨hk.1.1.1.2, ⟨hk.1.1.2, hk.1.2⟩⟩⟩, hk.2⟩)) hg hat); have n6_ := Aside0.mk (hb); have n7_ := Aside0.mk (ho); clear BK255; clear HO259; clear HO262; clear HO265; clear HO268; clear HO271; clear HB; clear HO274; have BK255 := n0_; have HO259 := n1_; have HO262 := n2_; have HO265 := n3_; have HO268 := n4_; have HO271 := n5_; have HB := n6_; have HO277 := n7_; clear n0_ n1_ n2_ n3_ n4_ n5_ n6_ n7_; clear ho hb hg hat))
    go_loopg [7] k (fun kq v7 w' => ∃ (x7_1 : List Int), Aside0 (cambiumref04_Seal.l0 kq x7_1 = some (r1, r2)) ∧ Aside0 (kq ≤ k) ∧ Aside0 (Kd.R (Kd.int .u8) 5 w' w.heap.size (fun _ => True) v7 x7_1) ∧ Aside0 (w'.heap[gb255]? = some (.cells #[.int .i64 a0_0, .int .i64 a0_1, .int .i64 a0_2, .int .i64 a0_3, .int .i64 a0_4] 62 (0, 0))) ∧ Aside0 (Below w.heap.size w w'))
    case atStart => exact ⟨(y275), H', ⟨Nat.le_refl _⟩, ⟨by (with_reducible repeat (first | apply Kd.R_alloc | apply Kd.R_drewN | apply Kd.R_drew)); exact Kd.R_mono HO277.out (fun _ hk => trivial)⟩, ⟨q72_⟩, ⟨q19_⟩⟩
    case round =>
     clear H'
     try clear c1
     try clear p2
     try clear c3
     try clear c4
     try clear c5
     try clear c5b0
     try clear c5b1
     try clear c15
     try clear hcz17_0
     try clear hcz17_1
     try clear hcz17_2
     try clear hcz17_3
     try clear hcz17_4
     try clear hcz19_0
     try clear hcz19_1
     try clear hcz19_2
     try clear hcz19_3
     try clear hcz19_4
     try clear hcz21_0
     try clear hcz21_1
     try clear hcz21_2
     try clear hcz21_3
     try clear hcz21_4
     try clear hcz24_0
     try clear hcz24_1
     try clear hcz24_2
     try clear hcz24_3
     try clear hcz24_4
     try clear hcz27_0
     try clear hcz27_1
     try clear hcz27_2
     try clear hcz27_3
     try clear hcz27_4
     try clear hcz30_0
     try clear hcz30_1
     try clear hcz30_2
     try clear hcz30_3
     try clear hcz30_4
     try clear hcz7_0
     try clear hcz7_1
     try clear hcz7_2
     try clear hcz7_3
     try clear hcz7_4
     try clear hfz17_0
     try clear hfz17_1
     try clear hfz17_2
     try clear hfz17_3
     try clear hfz17_4
     try clear hfz19_0
     try clear hfz19_1
     try clear hfz19_2
     try clear hfz19_3
     try clear hfz19_4
     try clear hfz21_0
     try clear hfz21_1
     try clear hfz21_2
     try clear hfz21_3
     try clear hfz21_4
     try clear hfz24_0
     try clear hfz24_1
     try clear hfz24_2
     try clear hfz24_3
     try clear hfz24_4
     try clear hfz27_0
     try clear hfz27_1
     try clear hfz27_2
     try clear hfz27_3
     try clear hfz27_4
     try clear hfz30_0
     try clear hfz30_1
     try clear hfz30_2
     try clear hfz30_3
     try clear hfz30_4
     try clear hfz7_0
     try clear hfz7_1
     try clear hfz7_2
     try clear hfz7_3
     try clear hfz7_4
     obtain ⟨x7_1, HA, HK1, HO_7, BK255, HB⟩ := hrel
     cases gk with
     | zero => exact absurd (show none = some _ from HA.out) (by simp)
     | succ k1 =>
      have H := HA.out
      clear HA
      rw [cambiumref04_Seal.l0_succ] at H
      by_cases c36 : (x7_1.length : Int) < 252
      ·rw [if_pos c36] at H
       have c36b0 : decide ((x7_1.length : Int) < 252) = true := decide_eq_true c36
       have c36b1 : decide (x7_1.length < 252) = true := decide_eq_true (by omega)
       clear c36
       by_cases c37 : x7_1.length < 140737488355328
       ·rw [if_pos c37] at H
        have LMc37 := Aside0.mk c37
        clear c37
        obtain ⟨y278, hy278⟩ : ∃ y_ : List Int, y_ = (x7_1 ++ [0]) := ⟨_, rfl⟩
        replace H : (cambiumref04_Seal.l0 k1 y278) = some (r1, r2) := by first | (rw [hy278]; with_reducible exact H) | (have H2_ := (Option.bind_some _ _).symm.trans H; rw [hy278]; with_reducible exact H2_) | (have H2_ := (Option.bind_some _ _).symm.trans H; with_reducible exact H2_) | with_reducible exact H | (rw [hy278]; exact H) | exact H
        have Ny278 := Aside0.mk hy278
        clear hy278
        have H' := Aside0.mk H
        clear H
        obtain ⟨Ao38, co38, eo38⟩ := Kd.R_slice HO_7.out
        subst eo38
        go_wp2_with (first | ((with_reducible refine gate_builtin (b := .append) (xs := #[.tmp 42, .tmp 43]) rfl ?_); at_builtin; refine Kd.R_append (Kd.int .u8) (w0 := w) w.heap.size rfl (.tmp 42) (.tmp 43) 29 5 (.int .u8 0) 1 rfl Try.underlying29 info5 rfl q210_ (by omega) (.slice Ao38 x7_1.length co38) x7_1 0 [.int .u8 0] (fun _ => True) (fun _ => False) rfl rfl ?aP (fun _ hk => hk.elim) ?aF ?aO ?aB ?aS ?aL ?_; (case aP => exact rfl); (case aB => exact q19_); (case aF => exact (fun _ _ => trivial)); (case aO => exact q154_); (case aS => exact (below_size q19_)); (case aL => have := LMc37.out; omega); intro v279 w39 ho hb hg hat; rw [← Ny278.out] at ho; have n0_ := Aside0.mk (blk_grown (g := gb255) (o := .cells #[.int .i64 a0_0, .int .i64 a0_1, .int .i64 a0_2, .int .i64 a0_3, .int .i64 a0_4] 62 (0, 0)) q72_ hg (Kd.R_ne HO_7.out BK255.out q210_)); have n1_ := Aside0.mk (hb); have n2_ := Aside0.mk (ho); clear BK255; clear HB; clear HO_7; have BK255 := n0_; have HB := n1_; have HO280 := n2_; clear n0_ n1_ n2_; clear ho hb hg hat))
        go_roundg k1
        case measure => have := HK1.out; omega
        case rel => exact ⟨(y278), H', ⟨by have := HK1.out; omega⟩, ⟨by (with_reducible repeat (first | apply Kd.R_alloc | apply Kd.R_drewN | apply Kd.R_drew)); exact HO280.out⟩, ⟨q72_⟩, ⟨q19_⟩⟩
       ·rw [if_neg c37] at H
        exact absurd H (by simp)
      ·rw [if_neg c36] at H
       have c36b0 : decide ((x7_1.length : Int) < 252) = false := decide_eq_false c36
       have c36b1 : decide (x7_1.length < 252) = false := decide_eq_false (by omega)
       clear c36
       replace H := Option.bind_eq_some_iff.mp H
       obtain ⟨t281, A400, H⟩ := H
       replace H : ((cambiumref01_Put.f k1 ([] : List Int) (wrap64 (t281)) 4).bind fun t282 => (if t282.length + x7_1.length < 140737488355328 then (some ((t282 ++ x7_1), 0)) else (none))) = some (r1, r2) := H
       have A40 := Aside0.mk A400
       clear A400
       replace H := Option.bind_eq_some_iff.mp H
       obtain ⟨t282, A410, H⟩ := H
       replace H : (if t282.length + x7_1.length < 140737488355328 then (some ((t282 ++ x7_1), 0)) else (none)) = some (r1, r2) := H
       have A41 := Aside0.mk A410
       clear A410
       by_cases c42 : t282.length + x7_1.length < 140737488355328
       ·rw [if_pos c42] at H
        have LMc42 := Aside0.mk c42
        clear c42
        obtain ⟨y285, hy285⟩ : ∃ y_ : List Int, y_ = (t282 ++ x7_1) := ⟨_, rfl⟩
        replace H : (some (y285, 0)) = some (r1, r2) := by first | (rw [hy285]; with_reducible exact H) | (have H2_ := (Option.bind_some _ _).symm.trans H; rw [hy285]; with_reducible exact H2_) | (have H2_ := (Option.bind_some _ _).symm.trans H; with_reducible exact H2_) | with_reducible exact H | (rw [hy285]; exact H) | exact H
        have Ny285 := Aside0.mk hy285
        clear hy285
        simp only [Option.some.injEq, Prod.mk.injEq] at H
        obtain ⟨rfl, rfl⟩ := H
        obtain ⟨Ao43, co43, eo43⟩ := Kd.R_slice HO_7.out
        subst eo43
        go_wp2_with (first | ((with_reducible refine gate_callee (f := 57) rfl ?_); refine goesL_ (some 46) rfl rfl Try.func57 q8_ rfl #[.slice Ao43 x7_1.length co43] rfl q1_ ?_; (with_reducible refine (cambiumref02_Sum.calls k1 _ _ x7_1 t281 _ ?side1 ?side2 A40.out).mono ?_); (case side1 => repeat (first | exact (Kd.R_reads' HO_7.out).2.2 | (with_reducible refine Kd.C_alloc ?_ _) | (with_reducible refine Kd.C_drewN ?_ _) | (with_reducible refine Kd.C_drew ?_))); (case side2 => exact (Kd.R_reads' HO_7.out).2.1); rintro e w' ⟨rfl, ⟨nd, rfl⟩⟩; refine ⟨_, rfl, ?_⟩) | ((with_reducible refine gate_callee (f := 36) rfl ?_); refine goesL_ (some 48) rfl rfl Try.func36 q8_ rfl #[.slice none 0 0, .int .i64 (wrap64 (t281)), .int .i64 4] rfl q1_ ?_; (refine (cambiumref01_Put.calls k1 _ _ ([] : List Int) (wrap64 (t281)) 4 t282 _ ?side1 ?side2 A41.out).mono ?_); (case side1 => exact Kd.C_nil _ _); (case side2 => exact Nat.le_refl _); rintro e w44 ⟨v283, rfl, ho0, hb⟩; refine ⟨_, rfl, ?_⟩; have n0_ := Aside0.mk (Kd.R_elder' q154_ (Kd.R_base ho0) hb); have n1_ := Aside0.mk (Kd.R_lower (Kd.R_new' ho0 (Kd.R_lt q154_)) (below_size q19_)); have n2_ := Aside0.mk (blk_below (g := gb255) (o := .cells #[.int .i64 a0_0, .int .i64 a0_1, .int .i64 a0_2, .int .i64 a0_3, .int .i64 a0_4] 62 (0, 0)) q72_ hb); have n3_ := Aside0.mk (below_step q19_ hb); clear HO_7; clear BK255; clear HB; have HO_7 := n0_; have HO284 := n1_; have BK255 := n2_; have HB := n3_; clear n0_ n1_ n2_ n3_; (try clear hb); (try clear hb2); (try clear hk); (try clear hi); (try clear ho0)) | ((with_reducible refine gate_builtin (b := .append) (xs := #[.tmp 48, .tmp 49]) rfl ?_); at_builtin; refine Kd.R_append_rows (Kd.int .u8) (w0 := w) w.heap.size rfl (.tmp 48) (.tmp 49) 29 5 (.int .u8 0) 1 rfl Try.underlying29 info5 rfl q210_ (by omega) v283 t282 x7_1 _ _ _ (fun k_ => some k_ ≠ (.slice Ao43 x7_1.length co43 : Value).ownBlock) (fun _ => False) rfl rfl ?aO ?aR (fun _ _ h => h) (fun _ h => h.elim) ?aF ?aB ?aS ?aL ?_; (case aR => repeat (first | exact (Kd.R_reads' HO_7.out).2.2 | (with_reducible refine Kd.C_alloc ?_ _) | (with_reducible refine Kd.C_drewN ?_ _) | (with_reducible refine Kd.C_drew ?_))); (case aB => exact q19_); (case aF => exact (fun k_ hk => Kd.fresh' (Kd.R_lt q154_) k_ hk)); (case aO => exact (by (with_reducible repeat (first | apply Kd.R_alloc | apply Kd.R_drewN | apply Kd.R_drew)); exact Kd.R_mono HO284.out (fun _ hk => hk.2))); (case aS => exact (below_size q19_)); (case aL => have := LMc42.out; omega); intro v286 w45 ho hb hg hat; rw [← Ny285.out] at ho; have n0_ := Aside0.mk (Kd.R_after (ok := (fun _ => True)) q154_ hg hat); have n1_ := Aside0.mk (blk_grown (g := gb255) (o := .cells #[.int .i64 a0_0, .int .i64 a0_1, .int .i64 a0_2, .int .i64 a0_3, .int .i64 a0_4] 62 (0, 0)) q72_ hg (Kd.R_ne HO284.out BK255.out q210_)); have n2_ := Aside0.mk (hb); have n3_ := Aside0.mk (ho); clear HO_7; clear BK255; clear HB; clear HO284; have HO_7 := n0_; have BK255 := n1_; have HB := n2_; have HO287 := n3_; clear n0_ n1_ n2_ n3_; clear ho hb hg hat))
        go_ret2
        exact ⟨_, by first | rfl | (simp [errW_none, errW_some] <;> rfl) | (simp [*, errW_none, errW_some] <;> rfl), by (with_reducible repeat (first | apply Kd.R_alloc | apply Kd.R_drewN | apply Kd.R_drew)); exact Kd.R_mono HO287.out (fun _ hk => trivial), by repeat (first | (with_reducible first | exact HB.out | apply below_alloc | apply pw_below_drewN | apply below_drew1 | refine below_set ?_ GE255.out) | exact HB.out)⟩
       ·rw [if_neg c42] at H
        exact absurd H (by simp)
   ·rw [if_neg c15] at H
    exact absurd H (by simp)
 ·replace c4 := Bool.eq_false_iff.mpr c4
  subst c4
  have H1 : (some (([] : List Int), 1)) = some (r1, r2) := by rw [if_neg (show ¬ (false = true) by decide)] at H; exact H
  clear H
  have H := H1
  clear H1
  simp only [Option.some.injEq, Prod.mk.injEq] at H
  obtain ⟨rfl, rfl⟩ := H
  go_enter Try.func37, Try.ntmps37
  go_wp2_with (first | ((with_reducible refine gate_dst (N := 2) rfl ?_); refine box_event ?hg (N := 2) ?hd (cs := #[.int .i64 a0_0, .int .i64 a0_1, .int .i64 a0_2, .int .i64 a0_3, .int .i64 a0_4]) (t := 62) ?hr ?_; (case hd => rfl); (case hg => rfl); (case hr => first | (go_simp; done) | (go_simp; rfl)); intro gb255 hg w46 hbox hb; have n0_ := Aside0.mk (below_step q0_ hb); have n1_ := Aside0.mk (hbox); have n2_ := Aside0.mk ((by rw [hg]; exact (below_size q0_) : w.heap.size ≤ gb255)); have n3_ := Aside0.mk ((by rw [hg]; exact (below_size q0_) : w.heap.size ≤ gb255)); clear HB; have HB := n0_; have BK255 := n1_; have GW255 := n2_; have GE255 := n3_; clear n0_ n1_ n2_ n3_; clear hb hbox hg; have hcz47_0 : w46.cell? ⟨gb255, 0, none⟩ = some (.int .i64 a0_0) := (blk_cell BK255.out 0).trans rfl; have hcz47_1 : w46.cell? ⟨gb255, 1, none⟩ = some (.int .i64 a0_1) := (blk_cell BK255.out 1).trans rfl; have hcz47_2 : w46.cell? ⟨gb255, 2, none⟩ = some (.int .i64 a0_2) := (blk_cell BK255.out 2).trans rfl; have hcz47_3 : w46.cell? ⟨gb255, 3, none⟩ = some (.int .i64 a0_3) := (blk_cell BK255.out 3).trans rfl; have hcz47_4 : w46.cell? ⟨gb255, 4, none⟩ = some (.int .i64 a0_4) := (blk_cell BK255.out 4).trans rfl; have hfz47_0 := blk_frozen BK255.out 0; have hfz47_1 := blk_frozen BK255.out 1; have hfz47_2 := blk_frozen BK255.out 2; have hfz47_3 := blk_frozen BK255.out 3; have hfz47_4 := blk_frozen BK255.out 4) | ((with_reducible refine gate_callee (f := 56) rfl ?_); refine goesL_ (some 9) rfl rfl Try.func56 q8_ rfl #[.agg #[.int .i64 a0_0, .int .i64 a0_1, .int .i64 a0_2, .int .i64 a0_3, .int .i64 a0_4]] rfl q1_ ?_; (with_reducible refine (cambiumref04_May.calls a0_0 a0_1 a0_2 a0_3 a0_4 false _ A3.out).mono ?_); rintro e w48 ⟨rfl, hb⟩; refine ⟨_, rfl, ?_⟩; have n0_ := Aside0.mk (blk_below (g := gb255) (o := .cells #[.int .i64 a0_0, .int .i64 a0_1, .int .i64 a0_2, .int .i64 a0_3, .int .i64 a0_4] 62 (0, 0)) q72_ hb); have n1_ := Aside0.mk (below_step q19_ hb); clear BK255; clear HB; have BK255 := n0_; have HB := n1_; clear n0_ n1_; (try clear hb); (try clear hb2); (try clear hk); (try clear hi)))
  go_ret2
  exact ⟨_, by first | rfl | (simp [errW_none, errW_some] <;> rfl) | (simp [*, errW_none, errW_some] <;> rfl), by first | exact Kd.R_nil _ _ _ _ _ | exact Kd.N_nil _ _ _ _ _ | exact Kd.V_nil _ _ _ _ _ | exact Kd.Q_nil _ _ _ _ _ | exact Kd.S_nil _ _ _ _ _, by repeat (first | (with_reducible first | exact HB.out | apply below_alloc | apply pw_below_drewN | apply below_drew1 | refine below_set ?_ GE255.out) | exact HB.out)⟩

end Go.Proofs.Ytcjnknpbikfimaa.P
