/- Functions and contracts, written by a program (mkprint.py, a wrapper of ours around the print); texts between GIVEN marks are ours. -/
import Derived.Test.YtcjnknpbikfimaaPx0
import Derived.Test.YtcjnknpbikfimaaPx3
import Derived.Test.YtcjnknpbikfimaaPx7
import Derived.Test.YtcjnknpbikfimaaPx24
import Derived.Test.YtcjnknpbikfimaaPx25
import Derived.Test.YtcjnknpbikfimaaPx26
namespace Go.Proofs.Ytcjnknpbikfimaa.P
open Go.RowKit Go.Proofs.YtcjnknpbikfimaaW.PrintWords Go.Proofs.YtcjnknpbikfimaaW.PrintLast Go.Proofs.YtcjnknpbikfimaaW.PrintMore
attribute [local go_sem] max2_int min2_int max_two min_two max_three min_three max_four min_four   -- for this text's walks alone
set_option linter.unusedVariables false
set_option linter.unusedSimpArgs false
theorem q7_ {P : Prop} (h : P := by repeat (first | (with_reducible first | exact HB.out | apply below_alloc | apply pw_below_drewN | apply below_drew1 | refine below_set ?_ GE357.out | refine below_set ?_ GE367.out | refine below_set ?_ GE368.out) | exact HB.out)) : P := h
theorem q13_ {P : Prop} (h : P := by repeat (first | (with_reducible first | exact HB.out | apply below_alloc | apply pw_below_drewN | apply below_drew1 | refine below_set ?_ GE357.out | refine below_set ?_ GE367.out | refine below_set ?_ GE368.out | refine below_set ?_ GE376.out) | exact HB.out)) : P := h
theorem q15_ {P : Prop} (h : P := by (with_reducible repeat (first | refine blk_drewN ?_ _ | refine blk_drew ?_ | refine blk_alloc ?_ _)); exact BK357.out) : P := h
theorem q24_ {P : Prop} (h : P := by (with_reducible repeat (first | refine blk_drewN ?_ _ | refine blk_drew ?_ | refine blk_alloc ?_ _)); exact BK367.out) : P := h
theorem q27_ {P : Prop} (h : P := by (with_reducible repeat (first | apply Kd.R_alloc | apply Kd.R_drewN | apply Kd.R_drew)); exact (Kd.R_mono (Kd.R_far (p := ⟨gb376, 2, none⟩) (Kd.R_far (p := ⟨gb376, 1, none⟩) (Kd.R_far (p := ⟨gb376, 0, none⟩) (Kd.R_types HO374.out BK376.out (by decide)) (fun _ hk => hk.2) (.int .i64 t369)) (fun _ hk => hk.2) (.int .i64 t370)) (fun _ hk => hk.2) (.int .i64 t371)) (fun _ h_ => h_.1))) : P := h
theorem q32_ {P : Prop} (h : P := by (with_reducible repeat (first | refine blk_drewN ?_ _ | refine blk_drew ?_ | refine blk_alloc ?_ _)); exact BK368.out) : P := h
theorem q36_ {P : Prop} (h : P := by (with_reducible repeat (first | refine blk_drewN ?_ _ | refine blk_drew ?_ | refine blk_alloc ?_ _)); refine blk_put (cs := #[.int .i64 t369, .int .i64 t370, .int .i64 0]) ?_ 2 _ rfl; (with_reducible repeat (first | refine blk_drewN ?_ _ | refine blk_drew ?_ | refine blk_alloc ?_ _)); refine blk_put (cs := #[.int .i64 t369, .int .i64 0, .int .i64 0]) ?_ 1 _ rfl; (with_reducible repeat (first | refine blk_drewN ?_ _ | refine blk_drew ?_ | refine blk_alloc ?_ _)); refine blk_put (cs := #[.int .i64 0, .int .i64 0, .int .i64 0]) ?_ 0 _ rfl; (with_reducible repeat (first | refine blk_drewN ?_ _ | refine blk_drew ?_ | refine blk_alloc ?_ _)); exact BK376.out) : P := h
theorem q52_ {P : Prop} (h : P := by (with_reducible repeat (first | refine blk_drewN ?_ _ | refine blk_drew ?_ | refine blk_alloc ?_ _)); refine blk_far ?_ NB357_376.out _; (with_reducible repeat (first | refine blk_drewN ?_ _ | refine blk_drew ?_ | refine blk_alloc ?_ _)); refine blk_far ?_ NB357_376.out _; (with_reducible repeat (first | refine blk_drewN ?_ _ | refine blk_drew ?_ | refine blk_alloc ?_ _)); refine blk_far ?_ NB357_376.out _; (with_reducible repeat (first | refine blk_drewN ?_ _ | refine blk_drew ?_ | refine blk_alloc ?_ _)); exact BK357.out) : P := h
theorem q53_ {P : Prop} (h : P := by (with_reducible repeat (first | refine blk_drewN ?_ _ | refine blk_drew ?_ | refine blk_alloc ?_ _)); refine blk_far ?_ NB367_376.out _; (with_reducible repeat (first | refine blk_drewN ?_ _ | refine blk_drew ?_ | refine blk_alloc ?_ _)); refine blk_far ?_ NB367_376.out _; (with_reducible repeat (first | refine blk_drewN ?_ _ | refine blk_drew ?_ | refine blk_alloc ?_ _)); refine blk_far ?_ NB367_376.out _; (with_reducible repeat (first | refine blk_drewN ?_ _ | refine blk_drew ?_ | refine blk_alloc ?_ _)); exact BK367.out) : P := h
theorem q54_ {P : Prop} (h : P := by (with_reducible repeat (first | refine blk_drewN ?_ _ | refine blk_drew ?_ | refine blk_alloc ?_ _)); refine blk_far ?_ NB368_376.out _; (with_reducible repeat (first | refine blk_drewN ?_ _ | refine blk_drew ?_ | refine blk_alloc ?_ _)); refine blk_far ?_ NB368_376.out _; (with_reducible repeat (first | refine blk_drewN ?_ _ | refine blk_drew ?_ | refine blk_alloc ?_ _)); refine blk_far ?_ NB368_376.out _; (with_reducible repeat (first | refine blk_drewN ?_ _ | refine blk_drew ?_ | refine blk_alloc ?_ _)); exact BK368.out) : P := h
theorem q61_ {P : Prop} (h : P := by (with_reducible repeat (first | apply Kd.R_alloc | apply Kd.R_drewN | apply Kd.R_drew)); exact HO_369002.out) : P := h
theorem q67_ {P : Prop} (h : P := by (with_reducible repeat (first | apply Kd.N_alloc | apply Kd.N_drewN | apply Kd.N_drew)); exact (Kd.N_mono (Kd.N_far (p := ⟨gb376, 2, none⟩) (Kd.N_far (p := ⟨gb376, 1, none⟩) (Kd.N_far (p := ⟨gb376, 0, none⟩) (Kd.N_mono HO_369001.out (fun k_ hk => (⟨hk, hk.2⟩ : _ ∧ k_ ≠ gb376))) (fun _ hk => hk.2) (.int .i64 t369)) (fun _ hk => hk.2) (.int .i64 t370)) (fun _ hk => hk.2) (.int .i64 t371)) (fun _ h_ => h_.1))) : P := h
theorem q76_ {P : Prop} (h : P := by (with_reducible repeat (first | apply Kd.N_alloc | apply Kd.N_drewN | apply Kd.N_drew)); exact HO_369001.out) : P := h
theorem q77_ {P : Prop} (h : P := by (with_reducible repeat (first | apply Kd.R_alloc | apply Kd.R_drewN | apply Kd.R_drew)); exact (Kd.R_mono (Kd.R_far (p := ⟨gb376, 2, none⟩) (Kd.R_far (p := ⟨gb376, 1, none⟩) (Kd.R_far (p := ⟨gb376, 0, none⟩) (Kd.R_types HO_369002.out BK376.out (by decide)) (fun _ hk => hk.2) (.int .i64 t369)) (fun _ hk => hk.2) (.int .i64 t370)) (fun _ hk => hk.2) (.int .i64 t371)) (fun _ h_ => h_.1))) : P := h
theorem q79_ {P : Prop} (h : P := by repeat (first | (with_reducible first | exact HB.out | apply below_alloc | apply pw_below_drewN | apply below_drew1 | refine below_set ?_ GE357.out | refine below_set ?_ GE367.out) | exact HB.out)) : P := h
theorem q102_ {P : Prop} (h : P := by (with_reducible repeat (first | refine blk_drewN ?_ _ | refine blk_drew ?_ | refine blk_alloc ?_ _)); refine blk_put (cs := #[.int .i64 t358, .int .i64 t359, .int .i64 t360, .int .i64 t361, .int .i64 0]) ?_ 4 _ rfl; (with_reducible repeat (first | refine blk_drewN ?_ _ | refine blk_drew ?_ | refine blk_alloc ?_ _)); refine blk_put (cs := #[.int .i64 t358, .int .i64 t359, .int .i64 t360, .int .i64 0, .int .i64 0]) ?_ 3 _ rfl; (with_reducible repeat (first | refine blk_drewN ?_ _ | refine blk_drew ?_ | refine blk_alloc ?_ _)); refine blk_put (cs := #[.int .i64 t358, .int .i64 t359, .int .i64 0, .int .i64 0, .int .i64 0]) ?_ 2 _ rfl; (with_reducible repeat (first | refine blk_drewN ?_ _ | refine blk_drew ?_ | refine blk_alloc ?_ _)); refine blk_put (cs := #[.int .i64 t358, .int .i64 0, .int .i64 0, .int .i64 0, .int .i64 0]) ?_ 1 _ rfl; (with_reducible repeat (first | refine blk_drewN ?_ _ | refine blk_drew ?_ | refine blk_alloc ?_ _)); refine blk_put (cs := #[.int .i64 0, .int .i64 0, .int .i64 0, .int .i64 0, .int .i64 0]) ?_ 0 _ rfl; (with_reducible repeat (first | refine blk_drewN ?_ _ | refine blk_drew ?_ | refine blk_alloc ?_ _)); exact BK367.out) : P := h
theorem q113_ {P : Prop} (h : P := by (with_reducible repeat (first | apply Kd.V_alloc | apply Kd.V_drewN | apply Kd.V_drew)); exact (Kd.V_mono (Kd.V_far (p := ⟨gb376, 2, none⟩) (Kd.V_far (p := ⟨gb376, 1, none⟩) (Kd.V_far (p := ⟨gb376, 0, none⟩) (Kd.V_mono HO_7.out (fun k_ hk => (⟨hk, hk.2⟩ : _ ∧ k_ ≠ gb376))) (fun _ hk => hk.2) (.int .i64 t369)) (fun _ hk => hk.2) (.int .i64 t370)) (fun _ hk => hk.2) (.int .i64 t371)) (fun _ h_ => h_.1))) : P := h
theorem q118_ {P : Prop} (h : P := by (with_reducible repeat (first | apply Kd.R_alloc | apply Kd.R_drewN | apply Kd.R_drew)); exact HO374.out) : P := h
theorem q121_ {P : Prop} (h : P := by repeat (first | (with_reducible first | exact HB.out | apply below_alloc | apply pw_below_drewN | apply below_drew1 | refine below_set ?_ GE357.out) | exact HB.out)) : P := h
theorem q129_ {P : Prop} (h : P := by (with_reducible repeat (first | refine blk_drewN ?_ _ | refine blk_drew ?_ | refine blk_alloc ?_ _)); refine blk_far ?_ NB357_367.out _; (with_reducible repeat (first | refine blk_drewN ?_ _ | refine blk_drew ?_ | refine blk_alloc ?_ _)); refine blk_far ?_ NB357_367.out _; (with_reducible repeat (first | refine blk_drewN ?_ _ | refine blk_drew ?_ | refine blk_alloc ?_ _)); refine blk_far ?_ NB357_367.out _; (with_reducible repeat (first | refine blk_drewN ?_ _ | refine blk_drew ?_ | refine blk_alloc ?_ _)); refine blk_far ?_ NB357_367.out _; (with_reducible repeat (first | refine blk_drewN ?_ _ | refine blk_drew ?_ | refine blk_alloc ?_ _)); refine blk_far ?_ NB357_367.out _; (with_reducible repeat (first | refine blk_drewN ?_ _ | refine blk_drew ?_ | refine blk_alloc ?_ _)); exact BK357.out) : P := h
theorem q137_ {P : Prop} (h : P := by (with_reducible repeat (first | refine blk_drewN ?_ _ | refine blk_drew ?_ | refine blk_alloc ?_ _)); refine blk_put (cs := #[.int .i64 0, .slice none 0 0, .slice none 0 0]) ?_ 2 _ rfl; (with_reducible repeat (first | refine blk_drewN ?_ _ | refine blk_drew ?_ | refine blk_alloc ?_ _)); refine blk_put (cs := #[.int .i64 0, .slice none 0 0, .slice none 0 0]) ?_ 1 _ rfl; (with_reducible repeat (first | refine blk_drewN ?_ _ | refine blk_drew ?_ | refine blk_alloc ?_ _)); refine blk_put (cs := #[.int .i64 x358000_4, .slice none 0 0, .slice none 0 0]) ?_ 0 _ rfl; (with_reducible repeat (first | refine blk_drewN ?_ _ | refine blk_drew ?_ | refine blk_alloc ?_ _)); exact BK357.out) : P := h
theorem q142_ {P : Prop} (h : P := by rw [hg]; exact Nat.ne_of_lt (blk_lt (g := gb367) (o := .cells #[.int .i64 t358, .int .i64 t359, .int .i64 t360, .int .i64 t361, .int .i64 t362] 62 (0, 0)) q24_)) : P := h
theorem q143_ {P : Prop} (h : P := by rw [hg]; exact Nat.ne_of_gt (blk_lt (g := gb367) (o := .cells #[.int .i64 t358, .int .i64 t359, .int .i64 t360, .int .i64 t361, .int .i64 t362] 62 (0, 0)) q24_)) : P := h
theorem q156_ {P : Prop} (h : P := by (with_reducible repeat (first | apply Kd.V_alloc | apply Kd.V_drewN | apply Kd.V_drew)); exact Kd.V_mono (Kd.V_far (p := ⟨gb367, 4, none⟩) (Kd.V_far (p := ⟨gb367, 3, none⟩) (Kd.V_far (p := ⟨gb367, 2, none⟩) (Kd.V_far (p := ⟨gb367, 1, none⟩) (Kd.V_far (p := ⟨gb367, 0, none⟩) (Kd.V_mono HO365.out (fun k_ hk => (⟨hk, hk.2⟩ : _ ∧ k_ ≠ gb367))) (fun _ hk => hk.2) (.int .i64 t358)) (fun _ hk => hk.2) (.int .i64 t359)) (fun _ hk => hk.2) (.int .i64 t360)) (fun _ hk => hk.2) (.int .i64 t361)) (fun _ hk => hk.2) (.int .i64 t362)) (fun _ hk => ⟨hk.1.1.1, ⟨hk.1.1.2, hk.1.2⟩⟩)) : P := h
theorem q194_ {P : Prop} (h : P := by (with_reducible repeat (first | refine blk_drewN ?_ _ | refine blk_drew ?_ | refine blk_alloc ?_ _)); exact BK376.out) : P := h
theorem q217_ {P : Prop} (h : P := by rw [hg]; exact Nat.ne_of_lt (blk_lt (g := gb357) (o := .cells #[.int .i64 x358000_3, .slice none 0 0, .slice none 0 0] 25 (0, 0)) q15_)) : P := h
theorem q218_ {P : Prop} (h : P := by rw [hg]; exact Nat.ne_of_gt (blk_lt (g := gb357) (o := .cells #[.int .i64 x358000_3, .slice none 0 0, .slice none 0 0] 25 (0, 0)) q15_)) : P := h

/-! ### node_Read: function 23 -/
mutual
def node_Read.j0 : Nat → Int → List Int → Int → Int → Int → Int → Int → Int → Int → Option (Int × (List (S52)) × (List (S57)) × Int)
 | 0, _, _, _, _, _, _, _, _, _ => none
 | k + 1, x1, x7, x8, x9, x368000, x368001, x368002, x368003, x368004 => if x8 = 0 then (if x368001 = x1 then (if x368000 = x9 then (node_Read.j1 k x7 (decide (x368002 > 12)) x368000 x368001 x368002 x368003 x368004) else (node_Read.j1 k x7 true x368000 x368001 x368002 x368003 x368004)) else (node_Read.j1 k x7 true x368000 x368001 x368002 x368003 x368004)) else (node_Read.j1 k x7 true x368000 x368001 x368002 x368003 x368004)
def node_Read.j1 : Nat → List Int → Bool → Int → Int → Int → Int → Int → Option (Int × (List (S52)) × (List (S57)) × Int)
 | 0, _, _, _, _, _, _, _ => none
 | k + 1, x7, x48, x368000, x368001, x368002, x368003, x368004 => if x48 = true then (some (0, ([] : List (S52)), ([] : List (S57)), 3)) else (node_Read.l0 k x7 x368002 0 x368003 ([] : List (S52)) ([] : List (S57)))
def node_Read.l0 : Nat → List Int → Int → Int → Int → List (S52) → List (S57) → Option (Int × (List (S52)) × (List (S57)) × Int)
 | 0, _, _, _, _, _, _ => none
 | k + 1, x7, x54, x55, x369000, x369001, x369002 => if x55 < x54 then ((key_Take.f x7).bind fun bt369 => (if bt369.2.2.2.2 = 0 then (if x369000 > 0 then ((num_Take.f bt369.2.2.2.1 2).bind fun bt377 => (if x369002.length < 4398046511104 then (node_Read.l0 k bt377.2.1 x54 (wrap64 (x55 + 1)) x369000 x369001 (x369002 ++ [(⟨(⟨bt369.1, bt369.2.1, bt369.2.2.1⟩ : S35), bt377.1⟩ : S57)])) else (none))) else ((num_TakeText.f bt369.2.2.2.1).bind fun bt385 => (if bt385.2.2 = 0 then ((bytes_conv.f bt385.1).bind fun t390 => (if x369001.length < 2932031007402 then (node_Read.l0 k bt385.2.1 x54 (wrap64 (x55 + 1)) x369000 (x369001 ++ [(⟨(⟨bt369.1, bt369.2.1, bt369.2.2.1⟩ : S35), t390⟩ : S52)]) x369002) else (none))) else (some (0, ([] : List (S52)), ([] : List (S57)), 3))))) else (some (0, ([] : List (S52)), ([] : List (S57)), 3)))) else (node_Read.l1 k x7 (x7.length : Int) 0 x369000 x369001 x369002)
def node_Read.l1 : Nat → List Int → Int → Int → Int → List (S52) → List (S57) → Option (Int × (List (S52)) × (List (S57)) × Int)
 | 0, _, _, _, _, _, _ => none
 | k + 1, x104, x105, x106, x369000, x369001, x369002 => if x106 < x105 then (if 0 ≤ x106 then (if x106 < (x104.length : Int) then (if (rd x104 x106) = 0 then (node_Read.l1 k x104 x105 (wrap64 (x106 + 1)) x369000 x369001 x369002) else (some (0, ([] : List (S52)), ([] : List (S57)), 3))) else (none)) else (none)) else ((node_May.f k x369000 x369001 x369002).bind fun t397 => (if t397 = true then (some (x369000, x369001, x369002, 0)) else (some (0, ([] : List (S52)), ([] : List (S57)), 3))))
end
def node_Read.f (k : Nat) (l0 : List Int) (a1 : Int) : Option (Int × (List (S52)) × (List (S57)) × Int) := (seal_Open.f l0).bind fun bt358 => (if bt358.2.2.2.1 > 0 then (node_Read.j0 k a1 bt358.2.2.2.2.2.1 bt358.2.2.2.2.2.2 4 bt358.1 bt358.2.1 bt358.2.2.1 bt358.2.2.2.1 bt358.2.2.2.2.1) else (node_Read.j0 k a1 bt358.2.2.2.2.2.1 bt358.2.2.2.2.2.2 3 bt358.1 bt358.2.1 bt358.2.2.1 bt358.2.2.2.1 bt358.2.2.2.2.1))
theorem node_Read.mono_l : ∀ k, (∀ y0 y1 y2 y3 y4 y5 y6 y7 y8, LeO (node_Read.j0 k y0 y1 y2 y3 y4 y5 y6 y7 y8) (node_Read.j0 (k + 1) y0 y1 y2 y3 y4 y5 y6 y7 y8)) ∧ (∀ y0 y1 y2 y3 y4 y5 y6, LeO (node_Read.j1 k y0 y1 y2 y3 y4 y5 y6) (node_Read.j1 (k + 1) y0 y1 y2 y3 y4 y5 y6)) ∧ (∀ y0 y1 y2 y3 y4 y5, LeO (node_Read.l0 k y0 y1 y2 y3 y4 y5) (node_Read.l0 (k + 1) y0 y1 y2 y3 y4 y5)) ∧ (∀ y0 y1 y2 y3 y4 y5, LeO (node_Read.l1 k y0 y1 y2 y3 y4 y5) (node_Read.l1 (k + 1) y0 y1 y2 y3 y4 y5))
 | 0 => ⟨fun _ _ _ _ _ _ _ _ _ r h => by simp [node_Read.j0] at h, fun _ _ _ _ _ _ _ r h => by simp [node_Read.j1] at h, fun _ _ _ _ _ _ r h => by simp [node_Read.l0] at h, fun _ _ _ _ _ _ r h => by simp [node_Read.l1] at h⟩
 | k + 1 => by
  obtain ⟨ih0, ih1, ih2, ih3⟩ := node_Read.mono_l k
  refine ⟨?_, ?_, ?_, ?_⟩
  ·intro y0 y1 y2 y3 y4 y5 y6 y7 y8
   unfold node_Read.j0
   repeat' first
   | (with_reducible exact ih0 _ _ _ _ _ _ _ _ _)
   | (with_reducible exact ih1 _ _ _ _ _ _ _)
   | (with_reducible exact ih2 _ _ _ _ _ _)
   | (with_reducible exact ih3 _ _ _ _ _ _)
   | (with_reducible exact node_May.mono _ _ _ _)
   | (with_reducible exact LeO.refl _)
   | (with_reducible exact LeO.none _)
   | (with_reducible refine LeO.ite ?_ ?_)
   | (with_reducible refine LeO.bind ?_ (fun _ => ?_))
   | exact ih0 _ _ _ _ _ _ _ _ _
   | exact ih1 _ _ _ _ _ _ _
   | exact ih2 _ _ _ _ _ _
   | exact ih3 _ _ _ _ _ _
   | exact node_May.mono _ _ _ _
   | exact LeO.none _
   | refine LeO.ite ?_ ?_
   | refine LeO.bind ?_ (fun _ => ?_)
  ·intro y0 y1 y2 y3 y4 y5 y6
   unfold node_Read.j1
   repeat' first
   | (with_reducible exact ih0 _ _ _ _ _ _ _ _ _)
   | (with_reducible exact ih1 _ _ _ _ _ _ _)
   | (with_reducible exact ih2 _ _ _ _ _ _)
   | (with_reducible exact ih3 _ _ _ _ _ _)
   | (with_reducible exact node_May.mono _ _ _ _)
   | (with_reducible exact LeO.refl _)
   | (with_reducible exact LeO.none _)
   | (with_reducible refine LeO.ite ?_ ?_)
   | (with_reducible refine LeO.bind ?_ (fun _ => ?_))
   | exact ih0 _ _ _ _ _ _ _ _ _
   | exact ih1 _ _ _ _ _ _ _
   | exact ih2 _ _ _ _ _ _
   | exact ih3 _ _ _ _ _ _
   | exact node_May.mono _ _ _ _
   | exact LeO.none _
   | refine LeO.ite ?_ ?_
   | refine LeO.bind ?_ (fun _ => ?_)
  ·intro y0 y1 y2 y3 y4 y5
   unfold node_Read.l0
   repeat' first
   | (with_reducible exact ih0 _ _ _ _ _ _ _ _ _)
   | (with_reducible exact ih1 _ _ _ _ _ _ _)
   | (with_reducible exact ih2 _ _ _ _ _ _)
   | (with_reducible exact ih3 _ _ _ _ _ _)
   | (with_reducible exact node_May.mono _ _ _ _)
   | (with_reducible exact LeO.refl _)
   | (with_reducible exact LeO.none _)
   | (with_reducible refine LeO.ite ?_ ?_)
   | (with_reducible refine LeO.bind ?_ (fun _ => ?_))
   | exact ih0 _ _ _ _ _ _ _ _ _
   | exact ih1 _ _ _ _ _ _ _
   | exact ih2 _ _ _ _ _ _
   | exact ih3 _ _ _ _ _ _
   | exact node_May.mono _ _ _ _
   | exact LeO.none _
   | refine LeO.ite ?_ ?_
   | refine LeO.bind ?_ (fun _ => ?_)
  ·intro y0 y1 y2 y3 y4 y5
   unfold node_Read.l1
   repeat' first
   | (with_reducible exact ih0 _ _ _ _ _ _ _ _ _)
   | (with_reducible exact ih1 _ _ _ _ _ _ _)
   | (with_reducible exact ih2 _ _ _ _ _ _)
   | (with_reducible exact ih3 _ _ _ _ _ _)
   | (with_reducible exact node_May.mono _ _ _ _)
   | (with_reducible exact LeO.refl _)
   | (with_reducible exact LeO.none _)
   | (with_reducible refine LeO.ite ?_ ?_)
   | (with_reducible refine LeO.bind ?_ (fun _ => ?_))
   | exact ih0 _ _ _ _ _ _ _ _ _
   | exact ih1 _ _ _ _ _ _ _
   | exact ih2 _ _ _ _ _ _
   | exact ih3 _ _ _ _ _ _
   | exact node_May.mono _ _ _ _
   | exact LeO.none _
   | refine LeO.ite ?_ ?_
   | refine LeO.bind ?_ (fun _ => ?_)
theorem node_Read.mono : ∀ a0 a1 k, LeO (node_Read.f k a0 a1) (node_Read.f (k + 1) a0 a1) := by
 intro a0 a1 k
 obtain ⟨ih0, ih1, ih2, ih3⟩ := node_Read.mono_l k
 unfold node_Read.f
 repeat' first
   | (with_reducible exact ih0 _ _ _ _ _ _ _ _ _)
   | (with_reducible exact ih1 _ _ _ _ _ _ _)
   | (with_reducible exact ih2 _ _ _ _ _ _)
   | (with_reducible exact ih3 _ _ _ _ _ _)
   | (with_reducible exact node_May.mono _ _ _ _)
   | (with_reducible exact LeO.refl _)
   | (with_reducible exact LeO.none _)
   | (with_reducible refine LeO.ite ?_ ?_)
   | (with_reducible refine LeO.bind ?_ (fun _ => ?_))
   | exact ih0 _ _ _ _ _ _ _ _ _
   | exact ih1 _ _ _ _ _ _ _
   | exact ih2 _ _ _ _ _ _
   | exact ih3 _ _ _ _ _ _
   | exact node_May.mono _ _ _ _
   | exact LeO.none _
   | refine LeO.ite ?_ ?_
   | refine LeO.bind ?_ (fun _ => ?_)
set_option maxHeartbeats 8000000 in
set_option maxRecDepth 100000 in
theorem node_Read.calls (k : Nat) (A0 : Option Addr) (c0 : Nat) (l0 : List Int) (a1 : Int) (r1 : Int) (r2 : List (S52)) (r3 : List (S57)) (r4 : Int) (w : World) (hr0 : Kd.C (Kd.int .u8) w A0 l0.length l0) (hc0 : l0.length ≤ c0) (h : node_Read.f k l0 a1 = some (r1, r2, r3, r4)) :
  Calls Try.prog 23 #[.slice A0 l0.length c0, .int .i64 a1] w fun e w' => ∃ v1_ v2_ : Value, e = .returned (.tuple #[.agg #[.int .i64 r1, v1_, v2_], .int .i64 r4]) ∧ Kd.N k52 52 w' w.heap.size (fun k_ => (w.heap.size ≤ k_) ∧ some k_ ≠ (v2_ : Value).ownBlock) v1_ r2 ∧ Kd.R k57 57 w' w.heap.size (fun k_ => (w.heap.size ≤ k_)) v2_ r3 ∧ Below w.heap.size w w' := by
 have hu25 := Try.underlying25
 have hu62 := Try.underlying62
 have hu35 := Try.underlying35
 have hu57 := Try.underlying57
 have hu52 := Try.underlying52
 have HR0 := Aside0.mk hr0
 have HC0 := Aside0.mk hc0
 clear hr0 hc0
 have HB := Aside0.mk (Below.refl w.heap.size w)
 have H : ((seal_Open.f l0).bind fun bt358 => (if bt358.2.2.2.1 > 0 then (node_Read.j0 k a1 bt358.2.2.2.2.2.1 bt358.2.2.2.2.2.2 4 bt358.1 bt358.2.1 bt358.2.2.1 bt358.2.2.2.1 bt358.2.2.2.2.1) else (node_Read.j0 k a1 bt358.2.2.2.2.2.1 bt358.2.2.2.2.2.2 3 bt358.1 bt358.2.1 bt358.2.2.1 bt358.2.2.2.1 bt358.2.2.2.2.1))) = some (r1, r2, r3, r4) := h
 clear h
 replace H := Option.bind_eq_some_iff.mp H
 obtain ⟨⟨t358, t359, t360, t361, t362, t363, t366⟩, A30, H⟩ := H
 replace H : (if t361 > 0 then (node_Read.j0 k a1 t363 t366 4 t358 t359 t360 t361 t362) else (node_Read.j0 k a1 t363 t366 3 t358 t359 t360 t361 t362)) = some (r1, r2, r3, r4) := H
 have A3 := Aside0.mk A30
 clear A30
 have HC4 := Aside0.mk H
 clear H
 go_enter Try.func23, Try.ntmps23
 go_upto_if 29 with (first | ((with_reducible refine gate_dst (N := 4) rfl ?_); refine box_event ?hg (N := 4) ?hd (cs := #[.int .i64 0, .slice none 0 0, .slice none 0 0]) (t := 25) ?hr ?_; (case hd => rfl); (case hg => rfl); (case hr => first | (go_simp; done) | (go_simp; rfl)); intro gb357 hg w5 hbox hb; have n0_ := Aside0.mk (below_step q0_ hb); have n1_ := Aside0.mk (hbox); have n2_ := Aside0.mk ((by rw [hg]; exact (below_size q0_) : w.heap.size ≤ gb357)); have n3_ := Aside0.mk ((by rw [hg]; exact (below_size q0_) : w.heap.size ≤ gb357)); clear HB; have HB := n0_; have BK357 := n1_; have GW357 := n2_; have GE357 := n3_; clear n0_ n1_ n2_ n3_; clear hb hbox hg) | ((with_reducible refine gate_callee (f := 43) rfl ?_); refine goesL_ (some 23) rfl rfl Try.func43 q8_ rfl #[.slice A0 l0.length c0] rfl q1_ ?_; (with_reducible refine (seal_Open.calls _ _ l0 t358 t359 t360 t361 t362 t363 t366 _ ?side1 ?side2 A3.out).mono ?_); (case side1 => repeat (first | exact (Kd.C_below HR0.out HB.out) | (with_reducible refine Kd.C_alloc ?_ _) | (with_reducible refine Kd.C_drewN ?_ _) | (with_reducible refine Kd.C_drew ?_))); (case side2 => exact HC0.out); rintro e w6 ⟨v364, rfl, ho0, hb⟩; refine ⟨_, rfl, ?_⟩; have n0_ := Aside0.mk (Kd.V_lower (Kd.V_mono (ok' := fun k_ => (w.heap.size ≤ k_) ∧ k_ ≠ gb357) ho0 (fun k_ hk_ => ⟨(Nat.le_trans (below_size q121_) hk_), (Kd.freshB (g := gb357) (o := .cells #[.int .i64 0, .slice none 0 0, .slice none 0 0] 25 (0, 0)) q15_ k_ hk_)⟩)) (below_size q121_)); have n1_ := Aside0.mk (blk_below (g := gb357) (o := .cells #[.int .i64 0, .slice none 0 0, .slice none 0 0] 25 (0, 0)) q15_ hb); have n2_ := Aside0.mk (below_step q121_ hb); clear BK357; clear HB; have HO365 := n0_; have BK357 := n1_; have HB := n2_; clear n0_ n1_ n2_; (try clear hb); (try clear hb2); (try clear hk); (try clear hi); (try clear ho0)) | ((with_reducible refine gate_dst (N := 6) rfl ?_); refine box_event ?hg (N := 6) ?hd (cs := #[.int .i64 0, .int .i64 0, .int .i64 0, .int .i64 0, .int .i64 0]) (t := 62) ?hr ?_; (case hd => rfl); (case hg => rfl); (case hr => first | (go_simp; done) | (go_simp; rfl)); intro gb367 hg w7 hbox hb; have n0_ := Aside0.mk (Kd.V_below (Kd.V_elderB (by (with_reducible repeat (first | apply Kd.V_alloc | apply Kd.V_drewN | apply Kd.V_drew)); exact HO365.out) gb367 (Nat.le_of_eq hg.symm)) hb); have n1_ := Aside0.mk (blk_below (g := gb357) (o := .cells #[.int .i64 0, .slice none 0 0, .slice none 0 0] 25 (0, 0)) q15_ hb); have n2_ := Aside0.mk (below_step q121_ hb); have n3_ := Aside0.mk (hbox); have n4_ := Aside0.mk ((by rw [hg]; exact (below_size q121_) : w.heap.size ≤ gb367)); have n5_ := Aside0.mk ((by rw [hg]; exact (below_size q121_) : w.heap.size ≤ gb367)); have n6_ := Aside0.mk ((by rw [hg]; exact Nat.ne_of_lt (blk_lt (g := gb357) (o := .cells #[.int .i64 0, .slice none 0 0, .slice none 0 0] 25 (0, 0)) q15_) : gb357 ≠ gb367)); have n7_ := Aside0.mk ((by rw [hg]; exact Nat.ne_of_gt (blk_lt (g := gb357) (o := .cells #[.int .i64 0, .slice none 0 0, .slice none 0 0] 25 (0, 0)) q15_) : gb367 ≠ gb357)); clear HO365; clear BK357; clear HB; have HO365 := n0_; have BK357 := n1_; have HB := n2_; have BK367 := n3_; have GW367 := n4_; have GE367 := n5_; have NB357_367 := n6_; have NB367_357 := n7_; clear n0_ n1_ n2_ n3_ n4_ n5_ n6_ n7_; clear hb hbox hg; have hnb8 := NB367_357.out; have hnc8 := NB357_367.out; have hcz9_0 : w7.cell? ⟨gb367, 0, none⟩ = some (.int .i64 0) := (blk_cell BK367.out 0).trans rfl; have hcz9_1 : w7.cell? ⟨gb367, 1, none⟩ = some (.int .i64 0) := (blk_cell BK367.out 1).trans rfl; have hcz9_2 : w7.cell? ⟨gb367, 2, none⟩ = some (.int .i64 0) := (blk_cell BK367.out 2).trans rfl; have hcz9_3 : w7.cell? ⟨gb367, 3, none⟩ = some (.int .i64 0) := (blk_cell BK367.out 3).trans rfl; have hcz9_4 : w7.cell? ⟨gb367, 4, none⟩ = some (.int .i64 0) := (blk_cell BK367.out 4).trans rfl; have hfz9_0 := blk_frozen BK367.out 0; have hfz9_1 := blk_frozen BK367.out 1; have hfz9_2 := blk_frozen BK367.out 2; have hfz9_3 := blk_frozen BK367.out 3; have hfz9_4 := blk_frozen BK367.out 4))
 (try simp only [Act.put, List.setIfInBounds_toArray, List.set_cons_zero, List.set_cons_succ])
 go_cut [9] (fun v9 wc => ∃ (kq : Nat) (x9_3 : Int), v9 = .int .i64 x9_3 ∧ Aside0 (node_Read.j0 kq a1 t363 t366 x9_3 t358 t359 t360 t361 t362 = some (r1, r2, r3, r4)) ∧ Aside0 (kq ≤ k) ∧ Aside0 (Kd.V (Kd.int .u8) 5 wc w.heap.size (fun k_ => (w.heap.size ≤ k_) ∧ k_ ≠ gb357 ∧ k_ ≠ gb367) v364 t363) ∧ Aside0 (wc.heap[gb357]? = some (.cells #[.int .i64 0, (.slice none 0 0), (.slice none 0 0)] 25 (0, 0))) ∧ Aside0 (wc.heap[gb367]? = some (.cells #[.int .i64 t358, .int .i64 t359, .int .i64 t360, .int .i64 t361, .int .i64 t362] 62 (0, 0))) ∧ Aside0 (Below w.heap.size w wc))
 case first =>
  have H := HC4.out
  clear HC4
  by_cases c10 : t361 > 0
  ·rw [if_pos c10] at H
   have c10b0 : decide (0 < t361) = true := decide_eq_true c10
   clear c10
   (first | rw [c10b0] | (simp only [i64_w, i32_w]; rw [c10b0]) | skip)
   have H' := Aside0.mk H
   clear H
   go_wp2
   go_meet
   case rel => exact ⟨_, (4), q14_, H', ⟨q219_⟩, ⟨q156_⟩, ⟨q129_⟩, ⟨q102_⟩, ⟨q79_⟩⟩
  ·rw [if_neg c10] at H
   have c10b0 : decide (0 < t361) = false := decide_eq_false c10
   clear c10
   (first | rw [c10b0] | (simp only [i64_w, i32_w]; rw [c10b0]) | skip)
   have H' := Aside0.mk H
   clear H
   go_wp2
   go_meet
   case rel => exact ⟨_, (3), q14_, H', ⟨q219_⟩, ⟨q156_⟩, ⟨q129_⟩, ⟨q102_⟩, ⟨q79_⟩⟩
 case rest =>
  clear HC4
  try clear c1
  try clear c2
  try clear p2
  try clear c4
  try clear c8
  try clear c10
  try clear c10b0
  try clear hcz9_0
  try clear hcz9_1
  try clear hcz9_2
  try clear hcz9_3
  try clear hcz9_4
  try clear hfz9_0
  try clear hfz9_1
  try clear hfz9_2
  try clear hfz9_3
  try clear hfz9_4
  obtain ⟨kq, x9_3, rfl, HA, HJ3, HO_7, BK357, BK367, HB⟩ := hcut
  cases kq with
  | zero => exact absurd (show none = some _ from HA.out) (by simp)
  | succ kj3 =>
   have H := HA.out
   clear HA
   simp only [node_Read.j0] at H
   have HC11 := Aside0.mk H
   clear H
   go_upto_region 5 with (fail)
   go_cut [48] (fun v48 wc => ∃ (kq : Nat) (x48_10 : Bool), v48 = .bool x48_10 ∧ Aside0 (node_Read.j1 kq t363 x48_10 t358 t359 t360 t361 t362 = some (r1, r2, r3, r4)) ∧ Aside0 (kq ≤ kj3) ∧ Aside0 (Kd.V (Kd.int .u8) 5 wc w.heap.size (fun k_ => (w.heap.size ≤ k_) ∧ k_ ≠ gb357 ∧ k_ ≠ gb367) v364 t363) ∧ Aside0 (wc.heap[gb357]? = some (.cells #[.int .i64 0, (.slice none 0 0), (.slice none 0 0)] 25 (0, 0))) ∧ Aside0 (wc.heap[gb367]? = some (.cells #[.int .i64 t358, .int .i64 t359, .int .i64 t360, .int .i64 t361, .int .i64 t362] 62 (0, 0))) ∧ Aside0 (Below w.heap.size w wc))
   case first =>
    have H := HC11.out
    clear HC11
    by_cases c12 : t366 = 0
    ·rw [if_pos c12] at H
     have c12b0 : (t366 == 0) = true := beq_iff_eq.mpr c12
     have c12b1 : (t366 != 0) = false := bne_eq_false_iff_eq.mpr c12
     clear c12
     (first | rw [c12b0] | (simp only [i64_w, i32_w]; rw [c12b0]) | skip)
     by_cases c13 : t359 = a1
     ·rw [if_pos c13] at H
      have c13b0 : (t359 == a1) = true := beq_iff_eq.mpr c13
      have c13b1 : (t359 != a1) = false := bne_eq_false_iff_eq.mpr c13
      clear c13
      by_cases c14 : t358 = x9_3
      ·rw [if_pos c14] at H
       have c14b0 : (t358 == x9_3) = true := beq_iff_eq.mpr c14
       have c14b1 : (t358 != x9_3) = false := bne_eq_false_iff_eq.mpr c14
       clear c14
       have H' := Aside0.mk H
       clear H
       have hnb15 := NB367_357.out
       have hnc15 := NB357_367.out
       have hcz16_0 : wc.cell? ⟨gb367, 0, none⟩ = some (.int .i64 t358) := (blk_cell BK367.out 0).trans rfl
       have hcz16_1 : wc.cell? ⟨gb367, 1, none⟩ = some (.int .i64 t359) := (blk_cell BK367.out 1).trans rfl
       have hcz16_2 : wc.cell? ⟨gb367, 2, none⟩ = some (.int .i64 t360) := (blk_cell BK367.out 2).trans rfl
       have hcz16_3 : wc.cell? ⟨gb367, 3, none⟩ = some (.int .i64 t361) := (blk_cell BK367.out 3).trans rfl
       have hcz16_4 : wc.cell? ⟨gb367, 4, none⟩ = some (.int .i64 t362) := (blk_cell BK367.out 4).trans rfl
       have hfz16_0 := blk_frozen BK367.out 0
       have hfz16_1 := blk_frozen BK367.out 1
       have hfz16_2 := blk_frozen BK367.out 2
       have hfz16_3 := blk_frozen BK367.out 3
       have hfz16_4 := blk_frozen BK367.out 4
       go_wp2
       go_meet
       case rel => exact ⟨_, (decide (t360 > 12)), q14_, H', ⟨by have := HJ3.out; first | omega | exact Nat.le_refl _⟩, ⟨q28_⟩, ⟨q15_⟩, ⟨q24_⟩, ⟨q79_⟩⟩
      ·rw [if_neg c14] at H
       have c14b0 : (t358 == x9_3) = false := beq_eq_false_iff_ne.mpr c14
       have c14b1 : (t358 != x9_3) = true := bne_iff_ne.mpr c14
       have H' := Aside0.mk H
       clear H
       have hnb17 := NB367_357.out
       have hnc17 := NB357_367.out
       have hcz18_0 : wc.cell? ⟨gb367, 0, none⟩ = some (.int .i64 t358) := (blk_cell BK367.out 0).trans rfl
       have hcz18_1 : wc.cell? ⟨gb367, 1, none⟩ = some (.int .i64 t359) := (blk_cell BK367.out 1).trans rfl
       have hcz18_2 : wc.cell? ⟨gb367, 2, none⟩ = some (.int .i64 t360) := (blk_cell BK367.out 2).trans rfl
       have hcz18_3 : wc.cell? ⟨gb367, 3, none⟩ = some (.int .i64 t361) := (blk_cell BK367.out 3).trans rfl
       have hcz18_4 : wc.cell? ⟨gb367, 4, none⟩ = some (.int .i64 t362) := (blk_cell BK367.out 4).trans rfl
       have hfz18_0 := blk_frozen BK367.out 0
       have hfz18_1 := blk_frozen BK367.out 1
       have hfz18_2 := blk_frozen BK367.out 2
       have hfz18_3 := blk_frozen BK367.out 3
       have hfz18_4 := blk_frozen BK367.out 4
       go_wp2
       go_meet
       case rel => exact ⟨_, (true), q14_, H', ⟨by have := HJ3.out; first | omega | exact Nat.le_refl _⟩, ⟨q28_⟩, ⟨q15_⟩, ⟨q24_⟩, ⟨q79_⟩⟩
     ·rw [if_neg c13] at H
      have c13b0 : (t359 == a1) = false := beq_eq_false_iff_ne.mpr c13
      have c13b1 : (t359 != a1) = true := bne_iff_ne.mpr c13
      have H' := Aside0.mk H
      clear H
      have hnb19 := NB367_357.out
      have hnc19 := NB357_367.out
      have hcz20_0 : wc.cell? ⟨gb367, 0, none⟩ = some (.int .i64 t358) := (blk_cell BK367.out 0).trans rfl
      have hcz20_1 : wc.cell? ⟨gb367, 1, none⟩ = some (.int .i64 t359) := (blk_cell BK367.out 1).trans rfl
      have hcz20_2 : wc.cell? ⟨gb367, 2, none⟩ = some (.int .i64 t360) := (blk_cell BK367.out 2).trans rfl
      have hcz20_3 : wc.cell? ⟨gb367, 3, none⟩ = some (.int .i64 t361) := (blk_cell BK367.out 3).trans rfl
      have hcz20_4 : wc.cell? ⟨gb367, 4, none⟩ = some (.int .i64 t362) := (blk_cell BK367.out 4).trans rfl
      have hfz20_0 := blk_frozen BK367.out 0
      have hfz20_1 := blk_frozen BK367.out 1
      have hfz20_2 := blk_frozen BK367.out 2
      have hfz20_3 := blk_frozen BK367.out 3
      have hfz20_4 := blk_frozen BK367.out 4
      go_wp2
      go_meet
      case rel => exact ⟨_, (true), q14_, H', ⟨by have := HJ3.out; first | omega | exact Nat.le_refl _⟩, ⟨q28_⟩, ⟨q15_⟩, ⟨q24_⟩, ⟨q79_⟩⟩
    ·rw [if_neg c12] at H
     have c12b0 : (t366 == 0) = false := beq_eq_false_iff_ne.mpr c12
     have c12b1 : (t366 != 0) = true := bne_iff_ne.mpr c12
     (first | rw [c12b0] | (simp only [i64_w, i32_w]; rw [c12b0]) | skip)
     have H' := Aside0.mk H
     clear H
     go_wp2
     go_meet
     case rel => exact ⟨_, (true), q14_, H', ⟨by have := HJ3.out; first | omega | exact Nat.le_refl _⟩, ⟨q28_⟩, ⟨q15_⟩, ⟨q24_⟩, ⟨q79_⟩⟩
   case rest =>
    clear HC11
    try clear c1
    try clear c2
    try clear p2
    try clear c4
    try clear c8
    try clear c10
    try clear c10b0
    try clear c12
    try clear c12b0
    try clear c12b1
    try clear c13
    try clear c13b0
    try clear c13b1
    try clear c14
    try clear c14b0
    try clear c14b1
    try clear c15
    try clear c17
    try clear c19
    try clear hcz16_0
    try clear hcz16_1
    try clear hcz16_2
    try clear hcz16_3
    try clear hcz16_4
    try clear hcz18_0
    try clear hcz18_1
    try clear hcz18_2
    try clear hcz18_3
    try clear hcz18_4
    try clear hcz20_0
    try clear hcz20_1
    try clear hcz20_2
    try clear hcz20_3
    try clear hcz20_4
    try clear hcz9_0
    try clear hcz9_1
    try clear hcz9_2
    try clear hcz9_3
    try clear hcz9_4
    try clear hfz16_0
    try clear hfz16_1
    try clear hfz16_2
    try clear hfz16_3
    try clear hfz16_4
    try clear hfz18_0
    try clear hfz18_1
    try clear hfz18_2
    try clear hfz18_3
    try clear hfz18_4
    try clear hfz20_0
    try clear hfz20_1
    try clear hfz20_2
    try clear hfz20_3
    try clear hfz20_4
    try clear hfz9_0
    try clear hfz9_1
    try clear hfz9_2
    try clear hfz9_3
    try clear hfz9_4
    try clear p2
    obtain ⟨kq, x48_10, rfl, HA, HJ10, HO_7, BK357, BK367, HB⟩ := hcut
    cases kq with
    | zero => exact absurd (show none = some _ from HA.out) (by simp)
    | succ kj10 =>
     have H := HA.out
     clear HA
     simp only [node_Read.j1] at H
     by_cases c21 : x48_10 = true
     ·subst c21
      have H1 : (some (0, ([] : List (S52)), ([] : List (S57)), 3)) = some (r1, r2, r3, r4) := by rw [if_pos rfl] at H; exact H
      clear H
      have H := H1
      clear H1
      simp only [Option.some.injEq, Prod.mk.injEq] at H
      obtain ⟨rfl, rfl, rfl, rfl⟩ := H
      have hnb22 := NB357_367.out
      have hnc22 := NB367_357.out
      have hcz23_0 : wc.cell? ⟨gb357, 0, none⟩ = some (.int .i64 0) := (blk_cell BK357.out 0).trans rfl
      have hcz23_1 : wc.cell? ⟨gb357, 1, none⟩ = some (.slice none 0 0) := (blk_cell BK357.out 1).trans rfl
      have hcz23_2 : wc.cell? ⟨gb357, 2, none⟩ = some (.slice none 0 0) := (blk_cell BK357.out 2).trans rfl
      have hfz23_0 := blk_frozen BK357.out 0
      have hfz23_1 := blk_frozen BK357.out 1
      have hfz23_2 := blk_frozen BK357.out 2
      go_wp2
      refine bodyPost_ret (results_ct rfl _ _ gb357 25 #[.int .i64 0, .slice none 0 0, .slice none 0 0] (0, 0) _ rfl (by (with_reducible repeat (first | refine blk_drewN ?_ _ | refine blk_drew ?_ | refine blk_alloc ?_ _)); refine blk_put (cs := #[.int .i64 0, .slice none 0 0, .slice none 0 0]) ?_ 2 _ rfl; (with_reducible repeat (first | refine blk_drewN ?_ _ | refine blk_drew ?_ | refine blk_alloc ?_ _)); refine blk_put (cs := #[.int .i64 0, .slice none 0 0, .slice none 0 0]) ?_ 1 _ rfl; (with_reducible repeat (first | refine blk_drewN ?_ _ | refine blk_drew ?_ | refine blk_alloc ?_ _)); refine blk_put (cs := #[.int .i64 0, .slice none 0 0, .slice none 0 0]) ?_ 0 _ rfl; (with_reducible repeat (first | refine blk_drewN ?_ _ | refine blk_drew ?_ | refine blk_alloc ?_ _)); exact BK357.out) Try.underlying25 rfl q8_) rfl ?_
      exact ⟨_, _, by first | rfl | (simp [errW_none, errW_some] <;> rfl) | (simp [*, errW_none, errW_some] <;> rfl), by first | exact Kd.S_nil _ _ _ _ _ | exact Kd.N_nil _ _ _ _ _ | exact Kd.V_nil _ _ _ _ _ | exact Kd.Q_nil _ _ _ _ _ | exact Kd.R_nil _ _ _ _ _, by first | exact Kd.R_nil _ _ _ _ _ | exact Kd.N_nil _ _ _ _ _ | exact Kd.V_nil _ _ _ _ _ | exact Kd.Q_nil _ _ _ _ _ | exact Kd.S_nil _ _ _ _ _, by repeat (first | (with_reducible first | exact HB.out | apply below_alloc | apply pw_below_drewN | apply below_drew1 | refine below_set ?_ GE357.out | refine below_set ?_ GE367.out) | exact HB.out)⟩
     ·replace c21 := Bool.eq_false_iff.mpr c21
      subst c21
      have H1 : (node_Read.l0 kj10 t363 t360 0 t361 ([] : List (S52)) ([] : List (S57))) = some (r1, r2, r3, r4) := by rw [if_neg (show ¬ (false = true) by decide)] at H; exact H
      clear H
      have H := H1
      clear H1
      have H' := Aside0.mk H
      clear H
      have hnb24 := NB367_357.out
      have hnc24 := NB357_367.out
      have hcz25_0 : wc.cell? ⟨gb367, 0, none⟩ = some (.int .i64 t358) := (blk_cell BK367.out 0).trans rfl
      have hcz25_1 : wc.cell? ⟨gb367, 1, none⟩ = some (.int .i64 t359) := (blk_cell BK367.out 1).trans rfl
      have hcz25_2 : wc.cell? ⟨gb367, 2, none⟩ = some (.int .i64 t360) := (blk_cell BK367.out 2).trans rfl
      have hcz25_3 : wc.cell? ⟨gb367, 3, none⟩ = some (.int .i64 t361) := (blk_cell BK367.out 3).trans rfl
      have hcz25_4 : wc.cell? ⟨gb367, 4, none⟩ = some (.int .i64 t362) := (blk_cell BK367.out 4).trans rfl
      have hfz25_0 := blk_frozen BK367.out 0
      have hfz25_1 := blk_frozen BK367.out 1
      have hfz25_2 := blk_frozen BK367.out 2
      have hfz25_3 := blk_frozen BK367.out 3
      have hfz25_4 := blk_frozen BK367.out 4
      go_wp2_with (first | ((with_reducible refine gate_dst (N := 10) rfl ?_); refine box_event ?hg (N := 10) ?hd (cs := #[.int .i64 0, .slice none 0 0, .slice none 0 0]) (t := 25) ?hr ?_; (case hd => rfl); (case hg => rfl); (case hr => first | (go_simp; done) | (go_simp; rfl)); intro gb368 hg w26 hbox hb; have n0_ := Aside0.mk (Kd.V_below (Kd.V_elderB q28_ gb368 (Nat.le_of_eq hg.symm)) hb); have n1_ := Aside0.mk (blk_below (g := gb357) (o := .cells #[.int .i64 0, .slice none 0 0, .slice none 0 0] 25 (0, 0)) q15_ hb); have n2_ := Aside0.mk (blk_below (g := gb367) (o := .cells #[.int .i64 t358, .int .i64 t359, .int .i64 t360, .int .i64 t361, .int .i64 t362] 62 (0, 0)) q24_ hb); have n3_ := Aside0.mk (below_step q79_ hb); have n4_ := Aside0.mk (hbox); have n5_ := Aside0.mk ((by rw [hg]; exact (below_size q79_) : w.heap.size ≤ gb368)); have n6_ := Aside0.mk ((by rw [hg]; exact (below_size q79_) : w.heap.size ≤ gb368)); have n7_ := Aside0.mk ((by rw [hg]; exact Nat.ne_of_lt (blk_lt (g := gb357) (o := .cells #[.int .i64 0, .slice none 0 0, .slice none 0 0] 25 (0, 0)) q15_) : gb357 ≠ gb368)); have n8_ := Aside0.mk ((by rw [hg]; exact Nat.ne_of_gt (blk_lt (g := gb357) (o := .cells #[.int .i64 0, .slice none 0 0, .slice none 0 0] 25 (0, 0)) q15_) : gb368 ≠ gb357)); have n9_ := Aside0.mk ((q142_ : gb367 ≠ gb368)); have n10_ := Aside0.mk ((q143_ : gb368 ≠ gb367)); clear HO_7; clear BK357; clear BK367; clear HB; have HO_7 := n0_; have BK357 := n1_; have BK367 := n2_; have HB := n3_; have BK368 := n4_; have GW368 := n5_; have GE368 := n6_; have NB357_368 := n7_; have NB368_357 := n8_; have NB367_368 := n9_; have NB368_367 := n10_; clear n0_ n1_ n2_ n3_ n4_ n5_ n6_ n7_ n8_ n9_ n10_; clear hb hbox hg; have hnb27 := NB368_357.out; have hnc27 := NB357_368.out; have hnb28 := NB368_367.out; have hnc28 := NB367_368.out; have hcz29_0 : w26.cell? ⟨gb368, 0, none⟩ = some (.int .i64 0) := (blk_cell BK368.out 0).trans rfl; have hcz29_1 : w26.cell? ⟨gb368, 1, none⟩ = some (.slice none 0 0) := (blk_cell BK368.out 1).trans rfl; have hcz29_2 : w26.cell? ⟨gb368, 2, none⟩ = some (.slice none 0 0) := (blk_cell BK368.out 2).trans rfl; have hfz29_0 := blk_frozen BK368.out 0; have hfz29_1 := blk_frozen BK368.out 1; have hfz29_2 := blk_frozen BK368.out 2; have hcz30_0 : w26.cell? ⟨gb367, 0, none⟩ = some (.int .i64 t358) := (blk_cell BK367.out 0).trans rfl; have hcz30_1 : w26.cell? ⟨gb367, 1, none⟩ = some (.int .i64 t359) := (blk_cell BK367.out 1).trans rfl; have hcz30_2 : w26.cell? ⟨gb367, 2, none⟩ = some (.int .i64 t360) := (blk_cell BK367.out 2).trans rfl; have hcz30_3 : w26.cell? ⟨gb367, 3, none⟩ = some (.int .i64 t361) := (blk_cell BK367.out 3).trans rfl; have hcz30_4 : w26.cell? ⟨gb367, 4, none⟩ = some (.int .i64 t362) := (blk_cell BK367.out 4).trans rfl; have hfz30_0 := blk_frozen BK367.out 0; have hfz30_1 := blk_frozen BK367.out 1; have hfz30_2 := blk_frozen BK367.out 2; have hfz30_3 := blk_frozen BK367.out 3; have hfz30_4 := blk_frozen BK367.out 4))
      go_loopg [7, 55] kj10 (fun kq v7 v55 w' => ∃ (x7_3 : List Int) (x55_3 : Int) (x358000_3 : Int) (x369001_3 : List (S52)) (x369002_3 : List (S57)) (u369001 : Value) (u369002 : Value), v55 = .int .i64 x55_3 ∧ Aside0 (node_Read.l0 kq x7_3 t360 x55_3 t361 x369001_3 x369002_3 = some (r1, r2, r3, r4)) ∧ Aside0 (kq ≤ kj10) ∧ Aside0 (Kd.V (Kd.int .u8) 5 w' w.heap.size (fun k_ => (w.heap.size ≤ k_) ∧ some k_ ≠ (u369001 : Value).ownBlock ∧ some k_ ≠ (u369002 : Value).ownBlock ∧ k_ ≠ gb357 ∧ k_ ≠ gb367 ∧ k_ ≠ gb368) v7 x7_3) ∧ Aside0 (Kd.N k52 52 w' w.heap.size (fun k_ => (w.heap.size ≤ k_) ∧ some k_ ≠ (u369002 : Value).ownBlock ∧ k_ ≠ gb357 ∧ k_ ≠ gb367 ∧ k_ ≠ gb368) u369001 x369001_3) ∧ Aside0 (Kd.R k57 57 w' w.heap.size (fun k_ => (w.heap.size ≤ k_)) u369002 x369002_3) ∧ Aside0 (w'.heap[gb357]? = some (.cells #[.int .i64 x358000_3, (.slice none 0 0), (.slice none 0 0)] 25 (0, 0))) ∧ Aside0 (w'.heap[gb367]? = some (.cells #[.int .i64 t358, .int .i64 t359, .int .i64 t360, .int .i64 t361, .int .i64 t362] 62 (0, 0))) ∧ Aside0 (w'.heap[gb368]? = some (.cells #[.int .i64 t361, u369001, u369002] 25 (0, 0))) ∧ Aside0 (Below w.heap.size w w'))
      case atStart => exact ⟨(t363), (0), (0), (([] : List (S52))), (([] : List (S57))), (.slice none 0 0), (.slice none 0 0), q14_, H', ⟨Nat.le_refl _⟩, ⟨by (with_reducible repeat (first | apply Kd.V_alloc | apply Kd.V_drewN | apply Kd.V_drew)); exact Kd.V_mono (Kd.V_far (p := ⟨gb368, 2, none⟩) (Kd.V_far (p := ⟨gb368, 1, none⟩) (Kd.V_far (p := ⟨gb368, 0, none⟩) (Kd.V_mono HO_7.out (fun k_ hk => (⟨hk, hk.2⟩ : _ ∧ k_ ≠ gb368))) (fun _ hk => hk.2) (.int .i64 t361)) (fun _ hk => hk.2) (.slice none 0 0)) (fun _ hk => hk.2) (.slice none 0 0)) (fun _ hk => ⟨hk.1.1.1, ⟨(by simp [Value.ownBlock]), ⟨(by simp [Value.ownBlock]), ⟨hk.1.1.2.1, ⟨hk.1.1.2.2, hk.1.2⟩⟩⟩⟩⟩)⟩, ⟨by first | exact Kd.S_nil _ _ _ _ _ | exact Kd.N_nil _ _ _ _ _ | exact Kd.V_nil _ _ _ _ _ | exact Kd.Q_nil _ _ _ _ _ | exact Kd.R_nil _ _ _ _ _⟩, ⟨q214_⟩, ⟨by (with_reducible repeat (first | refine blk_drewN ?_ _ | refine blk_drew ?_ | refine blk_alloc ?_ _)); refine blk_far ?_ NB357_368.out _; (with_reducible repeat (first | refine blk_drewN ?_ _ | refine blk_drew ?_ | refine blk_alloc ?_ _)); refine blk_far ?_ NB357_368.out _; (with_reducible repeat (first | refine blk_drewN ?_ _ | refine blk_drew ?_ | refine blk_alloc ?_ _)); refine blk_far ?_ NB357_368.out _; (with_reducible repeat (first | refine blk_drewN ?_ _ | refine blk_drew ?_ | refine blk_alloc ?_ _)); exact BK357.out⟩, ⟨by (with_reducible repeat (first | refine blk_drewN ?_ _ | refine blk_drew ?_ | refine blk_alloc ?_ _)); refine blk_far ?_ NB367_368.out _; (with_reducible repeat (first | refine blk_drewN ?_ _ | refine blk_drew ?_ | refine blk_alloc ?_ _)); refine blk_far ?_ NB367_368.out _; (with_reducible repeat (first | refine blk_drewN ?_ _ | refine blk_drew ?_ | refine blk_alloc ?_ _)); refine blk_far ?_ NB367_368.out _; (with_reducible repeat (first | refine blk_drewN ?_ _ | refine blk_drew ?_ | refine blk_alloc ?_ _)); exact BK367.out⟩, ⟨by (with_reducible repeat (first | refine blk_drewN ?_ _ | refine blk_drew ?_ | refine blk_alloc ?_ _)); refine blk_put (cs := #[.int .i64 t361, .slice none 0 0, .slice none 0 0]) ?_ 2 _ rfl; (with_reducible repeat (first | refine blk_drewN ?_ _ | refine blk_drew ?_ | refine blk_alloc ?_ _)); refine blk_put (cs := #[.int .i64 t361, .slice none 0 0, .slice none 0 0]) ?_ 1 _ rfl; (with_reducible repeat (first | refine blk_drewN ?_ _ | refine blk_drew ?_ | refine blk_alloc ?_ _)); refine blk_put (cs := #[.int .i64 0, .slice none 0 0, .slice none 0 0]) ?_ 0 _ rfl; (with_reducible repeat (first | refine blk_drewN ?_ _ | refine blk_drew ?_ | refine blk_alloc ?_ _)); exact BK368.out⟩, ⟨q7_⟩⟩
      case round =>
       clear H'
       try clear c1
       try clear c2
       try clear p2
       try clear c4
       try clear c8
       try clear c10
       try clear c10b0
       try clear c12
       try clear c12b0
       try clear c12b1
       try clear c13
       try clear c13b0
       try clear c13b1
       try clear c14
       try clear c14b0
       try clear c14b1
       try clear c15
       try clear c17
       try clear c19
       try clear c21
       try clear c22
       try clear c23
       try clear c24
       try clear c27
       try clear c28
       try clear hcz16_0
       try clear hcz16_1
       try clear hcz16_2
       try clear hcz16_3
       try clear hcz16_4
       try clear hcz18_0
       try clear hcz18_1
       try clear hcz18_2
       try clear hcz18_3
       try clear hcz18_4
       try clear hcz20_0
       try clear hcz20_1
       try clear hcz20_2
       try clear hcz20_3
       try clear hcz20_4
       try clear hcz23_0
       try clear hcz23_1
       try clear hcz23_2
       try clear hcz25_0
       try clear hcz25_1
       try clear hcz25_2
       try clear hcz25_3
       try clear hcz25_4
       try clear hcz29_0
       try clear hcz29_1
       try clear hcz29_2
       try clear hcz30_0
       try clear hcz30_1
       try clear hcz30_2
       try clear hcz30_3
       try clear hcz30_4
       try clear hcz9_0
       try clear hcz9_1
       try clear hcz9_2
       try clear hcz9_3
       try clear hcz9_4
       try clear hfz16_0
       try clear hfz16_1
       try clear hfz16_2
       try clear hfz16_3
       try clear hfz16_4
       try clear hfz18_0
       try clear hfz18_1
       try clear hfz18_2
       try clear hfz18_3
       try clear hfz18_4
       try clear hfz20_0
       try clear hfz20_1
       try clear hfz20_2
       try clear hfz20_3
       try clear hfz20_4
       try clear hfz23_0
       try clear hfz23_1
       try clear hfz23_2
       try clear hfz25_0
       try clear hfz25_1
       try clear hfz25_2
       try clear hfz25_3
       try clear hfz25_4
       try clear hfz29_0
       try clear hfz29_1
       try clear hfz29_2
       try clear hfz30_0
       try clear hfz30_1
       try clear hfz30_2
       try clear hfz30_3
       try clear hfz30_4
       try clear hfz9_0
       try clear hfz9_1
       try clear hfz9_2
       try clear hfz9_3
       try clear hfz9_4
       try clear p2
       obtain ⟨x7_3, x55_3, x358000_3, x369001_3, x369002_3, u369001, u369002, rfl, HA, HK3, HO_7, HO_369001, HO_369002, BK357, BK367, BK368, HB⟩ := hrel
       cases gk with
       | zero => exact absurd (show none = some _ from HA.out) (by simp)
       | succ k3 =>
        have H := HA.out
        clear HA
        simp only [node_Read.l0] at H
        by_cases c31 : x55_3 < t360
        ·rw [if_pos c31] at H
         have c31b0 : decide (x55_3 < t360) = true := decide_eq_true c31
         clear c31
         replace H := Option.bind_eq_some_iff.mp H
         obtain ⟨⟨t369, t370, t371, t372, t375⟩, A320, H⟩ := H
         replace H : (if t375 = 0 then (if t361 > 0 then ((num_Take.f t372 2).bind fun bt377 => (if x369002_3.length < 4398046511104 then (node_Read.l0 k3 bt377.2.1 t360 (wrap64 (x55_3 + 1)) t361 x369001_3 (x369002_3 ++ [(⟨(⟨t369, t370, t371⟩ : S35), bt377.1⟩ : S57)])) else (none))) else ((num_TakeText.f t372).bind fun bt385 => (if bt385.2.2 = 0 then ((bytes_conv.f bt385.1).bind fun t390 => (if x369001_3.length < 2932031007402 then (node_Read.l0 k3 bt385.2.1 t360 (wrap64 (x55_3 + 1)) t361 (x369001_3 ++ [(⟨(⟨t369, t370, t371⟩ : S35), t390⟩ : S52)]) x369002_3) else (none))) else (some (0, ([] : List (S52)), ([] : List (S57)), 3))))) else (some (0, ([] : List (S52)), ([] : List (S57)), 3))) = some (r1, r2, r3, r4) := H
         have A32 := Aside0.mk A320
         clear A320
         by_cases c33 : t375 = 0
         ·rw [if_pos c33] at H
          have c33b0 : (t375 == 0) = true := beq_iff_eq.mpr c33
          have c33b1 : (t375 != 0) = false := bne_eq_false_iff_eq.mpr c33
          clear c33
          by_cases c34 : t361 > 0
          ·rw [if_pos c34] at H
           have c34b0 : decide (0 < t361) = true := decide_eq_true c34
           clear c34
           replace H := Option.bind_eq_some_iff.mp H
           obtain ⟨⟨t377, t378, t379⟩, A350, H⟩ := H
           replace H : (if x369002_3.length < 4398046511104 then (node_Read.l0 k3 t378 t360 (wrap64 (x55_3 + 1)) t361 x369001_3 (x369002_3 ++ [(⟨(⟨t369, t370, t371⟩ : S35), t377⟩ : S57)])) else (none)) = some (r1, r2, r3, r4) := H
           have A35 := Aside0.mk A350
           clear A350
           by_cases c36 : x369002_3.length < 4398046511104
           ·rw [if_pos c36] at H
            have LMc36 := Aside0.mk c36
            clear c36
            obtain ⟨y382, hy382⟩ : ∃ y_ : List (S57), y_ = (x369002_3 ++ [(⟨(⟨t369, t370, t371⟩ : S35), t377⟩ : S57)]) := ⟨_, rfl⟩
            replace H : (node_Read.l0 k3 t378 t360 (wrap64 (x55_3 + 1)) t361 x369001_3 y382) = some (r1, r2, r3, r4) := by first | (rw [hy382]; with_reducible exact H) | (have H2_ := (Option.bind_some _ _).symm.trans H; rw [hy382]; with_reducible exact H2_) | (have H2_ := (Option.bind_some _ _).symm.trans H; with_reducible exact H2_) | with_reducible exact H | (rw [hy382]; exact H) | exact H
            have Ny382 := Aside0.mk hy382
            clear hy382
            have H' := Aside0.mk H
            clear H
            obtain ⟨Ao37, co37, eo37⟩ := Kd.V_slice HO_7.out
            subst eo37
            go_wp2_with (first | ((with_reducible refine gate_callee (f := 44) rfl ?_); refine goesL_ (some 59) rfl rfl Try.func44 q8_ rfl #[.slice Ao37 x7_3.length co37] rfl q1_ ?_; (with_reducible refine (key_Take.calls _ _ x7_3 t369 t370 t371 t372 t375 _ ?side1 ?side2 A32.out).mono ?_); (case side1 => repeat (first | exact (Kd.V_reads' HO_7.out).2.2 | (with_reducible refine Kd.C_alloc ?_ _) | (with_reducible refine Kd.C_drewN ?_ _) | (with_reducible refine Kd.C_drew ?_))); (case side2 => exact (Kd.V_reads' HO_7.out).2.1); rintro e w38 ⟨v373, rfl, ho0, hb⟩; refine ⟨_, rfl, ?_⟩; have n0_ := Aside0.mk (Kd.V_elder' q28_ (Kd.R_base ho0) hb); have n1_ := Aside0.mk (Kd.N_elder' q76_ (Kd.R_base ho0) hb); have n2_ := Aside0.mk (Kd.R_below q61_ hb); have n3_ := Aside0.mk (Kd.R_lower (Kd.R_newM (M := fun k_ => (w.heap.size ≤ k_)) ho0 (below_size q7_) (fun k_ h_ => h_)) (below_size q7_)); have n4_ := Aside0.mk (blk_below (g := gb357) (o := .cells #[.int .i64 x358000_3, .slice none 0 0, .slice none 0 0] 25 (0, 0)) q15_ hb); have n5_ := Aside0.mk (blk_below (g := gb367) (o := .cells #[.int .i64 t358, .int .i64 t359, .int .i64 t360, .int .i64 t361, .int .i64 t362] 62 (0, 0)) q24_ hb); have n6_ := Aside0.mk (blk_below (g := gb368) (o := .cells #[.int .i64 t361, u369001, u369002] 25 (0, 0)) q32_ hb); have n7_ := Aside0.mk (below_step q7_ hb); clear HO_7; clear HO_369001; clear HO_369002; clear BK357; clear BK367; clear BK368; clear HB; have HO_7 := n0_; have HO_369001 := n1_; have HO_369002 := n2_; have HO374 := n3_; have BK357 := n4_; have BK367 := n5_; have BK368 := n6_; have HB := n7_; clear n0_ n1_ n2_ n3_ n4_ n5_ n6_ n7_; (try clear hb); (try clear hb2); (try clear hk); (try clear hi); (try clear ho0)) | ((with_reducible refine gate_dst (N := 11) rfl ?_); refine box_event ?hg (N := 11) ?hd (cs := #[.int .i64 0, .int .i64 0, .int .i64 0]) (t := 35) ?hr ?_; (case hd => rfl); (case hg => rfl); (case hr => first | (go_simp; done) | (go_simp; rfl)); intro gb376 hg w39 hbox hb; have n0_ := Aside0.mk (Kd.V_below (Kd.V_elderB q28_ gb376 (Nat.le_of_eq hg.symm)) hb); have n1_ := Aside0.mk (Kd.N_below (Kd.N_elderB q76_ gb376 (Nat.le_of_eq hg.symm)) hb); have n2_ := Aside0.mk (Kd.R_below q61_ hb); have n3_ := Aside0.mk (Kd.R_below q118_ hb); have n4_ := Aside0.mk (blk_below (g := gb357) (o := .cells #[.int .i64 x358000_3, .slice none 0 0, .slice none 0 0] 25 (0, 0)) q15_ hb); have n5_ := Aside0.mk (blk_below (g := gb367) (o := .cells #[.int .i64 t358, .int .i64 t359, .int .i64 t360, .int .i64 t361, .int .i64 t362] 62 (0, 0)) q24_ hb); have n6_ := Aside0.mk (blk_below (g := gb368) (o := .cells #[.int .i64 t361, u369001, u369002] 25 (0, 0)) q32_ hb); have n7_ := Aside0.mk (below_step q7_ hb); have n8_ := Aside0.mk (hbox); have n9_ := Aside0.mk ((by rw [hg]; exact (below_size q7_) : w.heap.size ≤ gb376)); have n10_ := Aside0.mk ((by rw [hg]; exact (below_size q7_) : w.heap.size ≤ gb376)); have n11_ := Aside0.mk ((q217_ : gb357 ≠ gb376)); have n12_ := Aside0.mk ((q218_ : gb376 ≠ gb357)); have n13_ := Aside0.mk ((q142_ : gb367 ≠ gb376)); have n14_ := Aside0.mk ((q143_ : gb376 ≠ gb367)); have n15_ := Aside0.mk ((by rw [hg]; exact Nat.ne_of_lt (blk_lt (g := gb368) (o := .cells #[.int .i64 t361, u369001, u369002] 25 (0, 0)) q32_) : gb368 ≠ gb376)); have n16_ := Aside0.mk ((by rw [hg]; exact Nat.ne_of_gt (blk_lt (g := gb368) (o := .cells #[.int .i64 t361, u369001, u369002] 25 (0, 0)) q32_) : gb376 ≠ gb368)); clear HO_7; clear HO_369001; clear HO_369002; clear HO374; clear BK357; clear BK367; clear BK368; clear HB; have HO_7 := n0_; have HO_369001 := n1_; have HO_369002 := n2_; have HO374 := n3_; have BK357 := n4_; have BK367 := n5_; have BK368 := n6_; have HB := n7_; have BK376 := n8_; have GW376 := n9_; have GE376 := n10_; have NB357_376 := n11_; have NB376_357 := n12_; have NB367_376 := n13_; have NB376_367 := n14_; have NB368_376 := n15_; have NB376_368 := n16_; clear n0_ n1_ n2_ n3_ n4_ n5_ n6_ n7_ n8_ n9_ n10_ n11_ n12_ n13_ n14_ n15_ n16_; clear hb hbox hg; have hnb40 := NB376_357.out; have hnc40 := NB357_376.out; have hnb41 := NB376_367.out; have hnc41 := NB367_376.out; have hnb42 := NB376_368.out; have hnc42 := NB368_376.out; have hcz43_0 : w39.cell? ⟨gb376, 0, none⟩ = some (.int .i64 0) := (blk_cell BK376.out 0).trans rfl; have hcz43_1 : w39.cell? ⟨gb376, 1, none⟩ = some (.int .i64 0) := (blk_cell BK376.out 1).trans rfl; have hcz43_2 : w39.cell? ⟨gb376, 2, none⟩ = some (.int .i64 0) := (blk_cell BK376.out 2).trans rfl; have hfz43_0 := blk_frozen BK376.out 0; have hfz43_1 := blk_frozen BK376.out 1; have hfz43_2 := blk_frozen BK376.out 2; have hnb44 := NB368_357.out; have hnc44 := NB357_368.out; have hnb45 := NB368_367.out; have hnc45 := NB367_368.out; have hcz46_0 : w39.cell? ⟨gb368, 0, none⟩ = some (.int .i64 t361) := (blk_cell BK368.out 0).trans rfl; have hcz46_1 : w39.cell? ⟨gb368, 1, none⟩ = some (u369001) := (blk_cell BK368.out 1).trans rfl; have hcz46_2 : w39.cell? ⟨gb368, 2, none⟩ = some (u369002) := (blk_cell BK368.out 2).trans rfl; have hfz46_0 := blk_frozen BK368.out 0; have hfz46_1 := blk_frozen BK368.out 1; have hfz46_2 := blk_frozen BK368.out 2; obtain ⟨Ao47, co47, eo47⟩ := Kd.R_slice HO374.out; subst eo47) | ((with_reducible refine gate_callee (f := 45) rfl ?_); refine goesL_ (some 71) rfl rfl Try.func45 q8_ rfl #[.slice Ao47 t372.length co47, .int .i64 2] rfl q1_ ?_; (with_reducible refine (num_Take.calls _ _ t372 2 t377 t378 t379 _ ?side1 ?side2 A35.out).mono ?_); (case side1 => refine (Kd.R_reads' (e := 5) (base := w.heap.size) (ok := fun k_ => ((w.heap.size ≤ k_) ∧ True)) (n := t372.length) (c := co47) ?_).2.2; exact q27_); (case side2 => exact (Kd.R_reads' HO374.out).2.1); rintro e w48 ⟨v380, rfl, ho0, hb⟩; refine ⟨_, rfl, ?_⟩; have n0_ := Aside0.mk (Kd.V_elder' q113_ (Kd.R_base ho0) hb); have n1_ := Aside0.mk (Kd.N_elder' q67_ (Kd.R_base ho0) hb); have n2_ := Aside0.mk (Kd.R_below q77_ hb); have n3_ := Aside0.mk (Kd.R_elder' q27_ (Kd.R_base ho0) hb); have n4_ := Aside0.mk (Kd.R_lower (Kd.R_new' (Kd.R_newM (M := fun k_ => (w.heap.size ≤ k_)) ho0 (below_size q13_) (fun k_ h_ => h_)) (Kd.R_lt q27_)) (below_size q13_)); have n5_ := Aside0.mk (blk_below (g := gb357) (o := .cells #[.int .i64 x358000_3, .slice none 0 0, .slice none 0 0] 25 (0, 0)) q52_ hb); have n6_ := Aside0.mk (blk_below (g := gb367) (o := .cells #[.int .i64 t358, .int .i64 t359, .int .i64 t360, .int .i64 t361, .int .i64 t362] 62 (0, 0)) q53_ hb); have n7_ := Aside0.mk (blk_below (g := gb368) (o := .cells #[.int .i64 t361, u369001, u369002] 25 (0, 0)) q54_ hb); have n8_ := Aside0.mk (blk_below (g := gb376) (o := .cells #[.int .i64 t369, .int .i64 t370, .int .i64 t371] 35 (0, 0)) q36_ hb); have n9_ := Aside0.mk (below_step q13_ hb); clear HO_7; clear HO_369001; clear HO_369002; clear HO374; clear BK357; clear BK367; clear BK368; clear BK376; clear HB; have HO_7 := n0_; have HO_369001 := n1_; have HO_369002 := n2_; have HO374 := n3_; have HO381 := n4_; have BK357 := n5_; have BK367 := n6_; have BK368 := n7_; have BK376 := n8_; have HB := n9_; clear n0_ n1_ n2_ n3_ n4_ n5_ n6_ n7_ n8_ n9_; (try clear hb); (try clear hb2); (try clear hk); (try clear hi); (try clear ho0); have hcz49_0 : w48.cell? ⟨gb368, 0, none⟩ = some (.int .i64 t361) := (blk_cell BK368.out 0).trans rfl; have hcz49_1 : w48.cell? ⟨gb368, 1, none⟩ = some (u369001) := (blk_cell BK368.out 1).trans rfl; have hcz49_2 : w48.cell? ⟨gb368, 2, none⟩ = some (u369002) := (blk_cell BK368.out 2).trans rfl; have hfz49_0 := blk_frozen BK368.out 0; have hfz49_1 := blk_frozen BK368.out 1; have hfz49_2 := blk_frozen BK368.out 2; have hcz50_0 : w48.cell? ⟨gb376, 0, none⟩ = some (.int .i64 t369) := (blk_cell BK376.out 0).trans rfl; have hcz50_1 : w48.cell? ⟨gb376, 1, none⟩ = some (.int .i64 t370) := (blk_cell BK376.out 1).trans rfl; have hcz50_2 : w48.cell? ⟨gb376, 2, none⟩ = some (.int .i64 t371) := (blk_cell BK376.out 2).trans rfl; have hfz50_0 := blk_frozen BK376.out 0; have hfz50_1 := blk_frozen BK376.out 1; have hfz50_2 := blk_frozen BK376.out 2) | ((with_reducible refine gate_builtin (b := .append) (xs := #[.tmp 76, .tmp 80]) rfl ?_); at_builtin; refine Kd.R_append k57 (w0 := w) w.heap.size rfl (.tmp 76) (.tmp 80) 23 57 (.agg #[(.int .i64 0), (.int .i64 0), (.int .i64 0), (.int .i64 0)]) 32 rfl Try.underlying23 info57 rfl q210_ (by omega) u369002 x369002_3 (⟨(⟨t369, t370, t371⟩ : S35), t377⟩ : S57) [.int .i64 t369, .int .i64 t370, .int .i64 t371, .int .i64 t377] (fun k_ => (w.heap.size ≤ k_)) (fun _ => False) rfl rfl ?aP (fun _ hk => hk.elim) ?aF ?aO ?aB ?aS ?aL ?_; (case aP => exact k57_mkM _ _ _ (⟨(⟨t369, t370, t371⟩ : S35), t377⟩ : S57)); (case aB => exact q13_); (case aF => exact (fun k_ hk => (Nat.le_trans (below_size q13_) hk))); (case aO => exact q61_); (case aS => exact (below_size q13_)); (case aL => have := LMc36.out; omega); intro v383 w51 ho hb hg hat; rw [← Ny382.out] at ho; have n0_ := Aside0.mk (Kd.V_afterv (ok := (fun k_ => (w.heap.size ≤ k_) ∧ some k_ ≠ (u369001 : Value).ownBlock ∧ some k_ ≠ (.slice Ao47 t372.length co47 : Value).ownBlock ∧ some k_ ≠ (v380 : Value).ownBlock ∧ k_ ≠ gb357 ∧ k_ ≠ gb367 ∧ k_ ≠ gb368 ∧ k_ ≠ gb376)) (by (with_reducible repeat (first | apply Kd.V_alloc | apply Kd.V_drewN | apply Kd.V_drew)); exact Kd.V_mono HO_7.out (fun _ hk => ⟨⟨hk.1.1.1.1, ⟨hk.1.1.1.2.1, ⟨hk.1.1.2, ⟨hk.2, ⟨hk.1.1.1.2.2.2.1, ⟨hk.1.1.1.2.2.2.2.1, ⟨hk.1.1.1.2.2.2.2.2, hk.1.2⟩⟩⟩⟩⟩⟩⟩, hk.1.1.1.2.2.1⟩)) hg hat); have n1_ := Aside0.mk (Kd.N_afterv (ok := (fun k_ => (w.heap.size ≤ k_) ∧ some k_ ≠ (.slice Ao47 t372.length co47 : Value).ownBlock ∧ some k_ ≠ (v380 : Value).ownBlock ∧ k_ ≠ gb357 ∧ k_ ≠ gb367 ∧ k_ ≠ gb368 ∧ k_ ≠ gb376)) (by (with_reducible repeat (first | apply Kd.N_alloc | apply Kd.N_drewN | apply Kd.N_drew)); exact Kd.N_mono HO_369001.out (fun _ hk => ⟨⟨hk.1.1.1.1, ⟨hk.1.1.2, ⟨hk.2, ⟨hk.1.1.1.2.2.1, ⟨hk.1.1.1.2.2.2.1, ⟨hk.1.1.1.2.2.2.2, hk.1.2⟩⟩⟩⟩⟩⟩, hk.1.1.1.2.1⟩)) hg hat); have n2_ := Aside0.mk (blk_grown (g := gb357) (o := .cells #[.int .i64 x358000_3, .slice none 0 0, .slice none 0 0] 25 (0, 0)) q15_ hg (Kd.R_ne HO_369002.out BK357.out q210_)); have n3_ := Aside0.mk (blk_grown (g := gb367) (o := .cells #[.int .i64 t358, .int .i64 t359, .int .i64 t360, .int .i64 t361, .int .i64 t362] 62 (0, 0)) q24_ hg (Kd.R_ne HO_369002.out BK367.out q210_)); have n4_ := Aside0.mk (blk_grown (g := gb368) (o := .cells #[.int .i64 t361, u369001, u369002] 25 (0, 0)) q32_ hg (Kd.R_ne HO_369002.out BK368.out q210_)); have n5_ := Aside0.mk (Kd.R_over' q118_ (Kd.R_typed q61_) q210_ hg); have n6_ := Aside0.mk (blk_grown (g := gb376) (o := .cells #[.int .i64 t369, .int .i64 t370, .int .i64 t371] 35 (0, 0)) q194_ hg (Kd.R_ne HO_369002.out BK376.out q210_)); have n7_ := Aside0.mk (Kd.R_over' (by (with_reducible repeat (first | apply Kd.R_alloc | apply Kd.R_drewN | apply Kd.R_drew)); exact HO381.out) (Kd.R_typed q61_) q210_ hg); have n8_ := Aside0.mk (hb); have n9_ := Aside0.mk (ho); clear HO_7; clear HO_369001; clear BK357; clear BK367; clear BK368; clear HO374; clear BK376; clear HO381; clear HB; clear HO_369002; have HO_7 := n0_; have HO_369001 := n1_; have BK357 := n2_; have BK367 := n3_; have BK368 := n4_; have HO374 := n5_; have BK376 := n6_; have HO381 := n7_; have HB := n8_; have HO384 := n9_; clear n0_ n1_ n2_ n3_ n4_ n5_ n6_ n7_ n8_ n9_; clear ho hb hg hat; obtain ⟨Ao52, co52, eo52⟩ := Kd.R_slice HO384.out; subst eo52; have hcz53_0 : w51.cell? ⟨gb368, 0, none⟩ = some (.int .i64 t361) := (blk_cell BK368.out 0).trans rfl; have hcz53_1 : w51.cell? ⟨gb368, 1, none⟩ = some (u369001) := (blk_cell BK368.out 1).trans rfl; have hcz53_2 : w51.cell? ⟨gb368, 2, none⟩ = some (u369002) := (blk_cell BK368.out 2).trans rfl; have hfz53_0 := blk_frozen BK368.out 0; have hfz53_1 := blk_frozen BK368.out 1; have hfz53_2 := blk_frozen BK368.out 2))
            go_roundg k3
            case measure => have := HJ3.out; have := HJ10.out; have := HK3.out; omega
            case rel => exact ⟨(t378), (wrap64 (x55_3 + 1)), (x358000_3), (x369001_3), (y382), (u369001), (.slice Ao52 y382.length co52), q14_, H', ⟨by have := HJ3.out; have := HJ10.out; have := HK3.out; omega⟩, ⟨Kd.R_V (by (with_reducible repeat (first | apply Kd.R_alloc | apply Kd.R_drewN | apply Kd.R_drew)); exact Kd.R_mono (Kd.R_far (p := ⟨gb368, 2, none⟩) (Kd.R_types (Kd.R_types (Kd.R_types (Kd.R_types (Kd.R_apart' (Kd.R_apart' HO381.out (Kd.N_typed HO_369001.out) q210_) (Kd.R_typed HO384.out) q210_) BK357.out q210_) BK367.out q210_) BK368.out q210_) BK368.out q210_) (fun _ hk => hk.2) (.slice Ao52 y382.length co52)) (fun _ hk => ⟨hk.1.1.1.1.1.1.1.1, ⟨hk.1.1.1.1.1.2, ⟨hk.1.1.1.1.2, ⟨hk.1.1.1.2, ⟨hk.1.1.2, hk.1.2⟩⟩⟩⟩⟩))⟩, ⟨by (with_reducible repeat (first | apply Kd.N_alloc | apply Kd.N_drewN | apply Kd.N_drew)); exact Kd.N_mono (Kd.N_far (p := ⟨gb368, 2, none⟩) (Kd.N_mono HO_369001.out (fun k_ hk => (⟨hk, hk.1.2.2.2.2.2.1⟩ : _ ∧ k_ ≠ gb368))) (fun _ hk => hk.2) (.slice Ao52 y382.length co52)) (fun _ hk => ⟨hk.1.1.1, ⟨hk.1.2, ⟨hk.1.1.2.2.2.1, ⟨hk.1.1.2.2.2.2.1, hk.1.1.2.2.2.2.2.1⟩⟩⟩⟩)⟩, ⟨by (with_reducible repeat (first | apply Kd.R_alloc | apply Kd.R_drewN | apply Kd.R_drew)); exact Kd.R_mono (Kd.R_far (p := ⟨gb368, 2, none⟩) (Kd.R_types HO384.out BK368.out q210_) (fun _ hk => hk.2) (.slice Ao52 y382.length co52)) (fun _ hk => hk.1)⟩, ⟨by (with_reducible repeat (first | refine blk_drewN ?_ _ | refine blk_drew ?_ | refine blk_alloc ?_ _)); refine blk_far ?_ NB357_368.out _; (with_reducible repeat (first | refine blk_drewN ?_ _ | refine blk_drew ?_ | refine blk_alloc ?_ _)); exact BK357.out⟩, ⟨by (with_reducible repeat (first | refine blk_drewN ?_ _ | refine blk_drew ?_ | refine blk_alloc ?_ _)); refine blk_far ?_ NB367_368.out _; (with_reducible repeat (first | refine blk_drewN ?_ _ | refine blk_drew ?_ | refine blk_alloc ?_ _)); exact BK367.out⟩, ⟨by (with_reducible repeat (first | refine blk_drewN ?_ _ | refine blk_drew ?_ | refine blk_alloc ?_ _)); refine blk_put (cs := #[.int .i64 t361, u369001, u369002]) ?_ 2 _ rfl; (with_reducible repeat (first | refine blk_drewN ?_ _ | refine blk_drew ?_ | refine blk_alloc ?_ _)); exact BK368.out⟩, ⟨q13_⟩⟩
           ·rw [if_neg c36] at H
            exact absurd H (by simp)
          ·rw [if_neg c34] at H
           have c34b0 : decide (0 < t361) = false := decide_eq_false c34
           clear c34
           replace H := Option.bind_eq_some_iff.mp H
           obtain ⟨⟨t385, t386, t389⟩, A540, H⟩ := H
           replace H : (if t389 = 0 then ((bytes_conv.f t385).bind fun t390 => (if x369001_3.length < 2932031007402 then (node_Read.l0 k3 t386 t360 (wrap64 (x55_3 + 1)) t361 (x369001_3 ++ [(⟨(⟨t369, t370, t371⟩ : S35), t390⟩ : S52)]) x369002_3) else (none))) else (some (0, ([] : List (S52)), ([] : List (S57)), 3))) = some (r1, r2, r3, r4) := H
           have A54 := Aside0.mk A540
           clear A540
           by_cases c55 : t389 = 0
           ·rw [if_pos c55] at H
            have c55b0 : (t389 == 0) = true := beq_iff_eq.mpr c55
            have c55b1 : (t389 != 0) = false := bne_eq_false_iff_eq.mpr c55
            clear c55
            replace H := Option.bind_eq_some_iff.mp H
            obtain ⟨t390, A560, H⟩ := H
            replace H : (if x369001_3.length < 2932031007402 then (node_Read.l0 k3 t386 t360 (wrap64 (x55_3 + 1)) t361 (x369001_3 ++ [(⟨(⟨t369, t370, t371⟩ : S35), t390⟩ : S52)]) x369002_3) else (none)) = some (r1, r2, r3, r4) := H
            have A56 := Aside0.mk A560
            clear A560
            by_cases c57 : x369001_3.length < 2932031007402
            ·rw [if_pos c57] at H
             have LMc57 := Aside0.mk c57
             clear c57
             obtain ⟨y393, hy393⟩ : ∃ y_ : List (S52), y_ = (x369001_3 ++ [(⟨(⟨t369, t370, t371⟩ : S35), t390⟩ : S52)]) := ⟨_, rfl⟩
             replace H : (node_Read.l0 k3 t386 t360 (wrap64 (x55_3 + 1)) t361 y393 x369002_3) = some (r1, r2, r3, r4) := by first | (rw [hy393]; with_reducible exact H) | (have H2_ := (Option.bind_some _ _).symm.trans H; rw [hy393]; with_reducible exact H2_) | (have H2_ := (Option.bind_some _ _).symm.trans H; with_reducible exact H2_) | with_reducible exact H | (rw [hy393]; exact H) | exact H
             have Ny393 := Aside0.mk hy393
             clear hy393
             have H' := Aside0.mk H
             clear H
             obtain ⟨Ao58, co58, eo58⟩ := Kd.V_slice HO_7.out
             subst eo58
             go_wp2_with (first | ((with_reducible refine gate_callee (f := 44) rfl ?_); refine goesL_ (some 59) rfl rfl Try.func44 q8_ rfl #[.slice Ao58 x7_3.length co58] rfl q1_ ?_; (with_reducible refine (key_Take.calls _ _ x7_3 t369 t370 t371 t372 t375 _ ?side1 ?side2 A32.out).mono ?_); (case side1 => repeat (first | exact (Kd.V_reads' HO_7.out).2.2 | (with_reducible refine Kd.C_alloc ?_ _) | (with_reducible refine Kd.C_drewN ?_ _) | (with_reducible refine Kd.C_drew ?_))); (case side2 => exact (Kd.V_reads' HO_7.out).2.1); rintro e w59 ⟨v373, rfl, ho0, hb⟩; refine ⟨_, rfl, ?_⟩; have n0_ := Aside0.mk (Kd.V_elder' q28_ (Kd.R_base ho0) hb); have n1_ := Aside0.mk (Kd.N_elder' q76_ (Kd.R_base ho0) hb); have n2_ := Aside0.mk (Kd.R_below q61_ hb); have n3_ := Aside0.mk (Kd.R_lower (Kd.R_newM (M := fun k_ => (w.heap.size ≤ k_)) ho0 (below_size q7_) (fun k_ h_ => h_)) (below_size q7_)); have n4_ := Aside0.mk (blk_below (g := gb357) (o := .cells #[.int .i64 x358000_3, .slice none 0 0, .slice none 0 0] 25 (0, 0)) q15_ hb); have n5_ := Aside0.mk (blk_below (g := gb367) (o := .cells #[.int .i64 t358, .int .i64 t359, .int .i64 t360, .int .i64 t361, .int .i64 t362] 62 (0, 0)) q24_ hb); have n6_ := Aside0.mk (blk_below (g := gb368) (o := .cells #[.int .i64 t361, u369001, u369002] 25 (0, 0)) q32_ hb); have n7_ := Aside0.mk (below_step q7_ hb); clear HO_7; clear HO_369001; clear HO_369002; clear BK357; clear BK367; clear BK368; clear HB; have HO_7 := n0_; have HO_369001 := n1_; have HO_369002 := n2_; have HO374 := n3_; have BK357 := n4_; have BK367 := n5_; have BK368 := n6_; have HB := n7_; clear n0_ n1_ n2_ n3_ n4_ n5_ n6_ n7_; (try clear hb); (try clear hb2); (try clear hk); (try clear hi); (try clear ho0)) | ((with_reducible refine gate_dst (N := 11) rfl ?_); refine box_event ?hg (N := 11) ?hd (cs := #[.int .i64 0, .int .i64 0, .int .i64 0]) (t := 35) ?hr ?_; (case hd => rfl); (case hg => rfl); (case hr => first | (go_simp; done) | (go_simp; rfl)); intro gb376 hg w60 hbox hb; have n0_ := Aside0.mk (Kd.V_below (Kd.V_elderB q28_ gb376 (Nat.le_of_eq hg.symm)) hb); have n1_ := Aside0.mk (Kd.N_below (Kd.N_elderB q76_ gb376 (Nat.le_of_eq hg.symm)) hb); have n2_ := Aside0.mk (Kd.R_below q61_ hb); have n3_ := Aside0.mk (Kd.R_below q118_ hb); have n4_ := Aside0.mk (blk_below (g := gb357) (o := .cells #[.int .i64 x358000_3, .slice none 0 0, .slice none 0 0] 25 (0, 0)) q15_ hb); have n5_ := Aside0.mk (blk_below (g := gb367) (o := .cells #[.int .i64 t358, .int .i64 t359, .int .i64 t360, .int .i64 t361, .int .i64 t362] 62 (0, 0)) q24_ hb); have n6_ := Aside0.mk (blk_below (g := gb368) (o := .cells #[.int .i64 t361, u369001, u369002] 25 (0, 0)) q32_ hb); have n7_ := Aside0.mk (below_step q7_ hb); have n8_ := Aside0.mk (hbox); have n9_ := Aside0.mk ((by rw [hg]; exact (below_size q7_) : w.heap.size ≤ gb376)); have n10_ := Aside0.mk ((by rw [hg]; exact (below_size q7_) : w.heap.size ≤ gb376)); have n11_ := Aside0.mk ((q217_ : gb357 ≠ gb376)); have n12_ := Aside0.mk ((q218_ : gb376 ≠ gb357)); have n13_ := Aside0.mk ((q142_ : gb367 ≠ gb376)); have n14_ := Aside0.mk ((q143_ : gb376 ≠ gb367)); have n15_ := Aside0.mk ((by rw [hg]; exact Nat.ne_of_lt (blk_lt (g := gb368) (o := .cells #[.int .i64 t361, u369001, u369002] 25 (0, 0)) q32_) : gb368 ≠ gb376)); have n16_ := Aside0.mk ((by rw [hg]; exact Nat.ne_of_gt (blk_lt (g := gb368) (o := .cells #[.int .i64 t361, u369001, u369002] 25 (0, 0)) q32_) : gb376 ≠ gb368)); clear HO_7; clear HO_369001; clear HO_369002; clear HO374; clear BK357; clear BK367; clear BK368; clear HB; have HO_7 := n0_; have HO_369001 := n1_; have HO_369002 := n2_; have HO374 := n3_; have BK357 := n4_; have BK367 := n5_; have BK368 := n6_; have HB := n7_; have BK376 := n8_; have GW376 := n9_; have GE376 := n10_; have NB357_376 := n11_; have NB376_357 := n12_; have NB367_376 := n13_; have NB376_367 := n14_; have NB368_376 := n15_; have NB376_368 := n16_; clear n0_ n1_ n2_ n3_ n4_ n5_ n6_ n7_ n8_ n9_ n10_ n11_ n12_ n13_ n14_ n15_ n16_; clear hb hbox hg; have hnb61 := NB376_357.out; have hnc61 := NB357_376.out; have hnb62 := NB376_367.out; have hnc62 := NB367_376.out; have hnb63 := NB376_368.out; have hnc63 := NB368_376.out; have hcz64_0 : w60.cell? ⟨gb376, 0, none⟩ = some (.int .i64 0) := (blk_cell BK376.out 0).trans rfl; have hcz64_1 : w60.cell? ⟨gb376, 1, none⟩ = some (.int .i64 0) := (blk_cell BK376.out 1).trans rfl; have hcz64_2 : w60.cell? ⟨gb376, 2, none⟩ = some (.int .i64 0) := (blk_cell BK376.out 2).trans rfl; have hfz64_0 := blk_frozen BK376.out 0; have hfz64_1 := blk_frozen BK376.out 1; have hfz64_2 := blk_frozen BK376.out 2; have hnb65 := NB368_357.out; have hnc65 := NB357_368.out; have hnb66 := NB368_367.out; have hnc66 := NB367_368.out; have hcz67_0 : w60.cell? ⟨gb368, 0, none⟩ = some (.int .i64 t361) := (blk_cell BK368.out 0).trans rfl; have hcz67_1 : w60.cell? ⟨gb368, 1, none⟩ = some (u369001) := (blk_cell BK368.out 1).trans rfl; have hcz67_2 : w60.cell? ⟨gb368, 2, none⟩ = some (u369002) := (blk_cell BK368.out 2).trans rfl; have hfz67_0 := blk_frozen BK368.out 0; have hfz67_1 := blk_frozen BK368.out 1; have hfz67_2 := blk_frozen BK368.out 2; obtain ⟨Ao68, co68, eo68⟩ := Kd.R_slice HO374.out; subst eo68) | ((with_reducible refine gate_callee (f := 46) rfl ?_); refine goesL_ (some 86) rfl rfl Try.func46 q8_ rfl #[.slice Ao68 t372.length co68] rfl q1_ ?_; (with_reducible refine (num_TakeText.calls _ _ t372 t385 t386 t389 _ ?side1 ?side2 A54.out).mono ?_); (case side1 => refine (Kd.R_reads' (e := 5) (base := w.heap.size) (ok := fun k_ => ((w.heap.size ≤ k_) ∧ True)) (n := t372.length) (c := co68) ?_).2.2; exact q27_); (case side2 => exact (Kd.R_reads' HO374.out).2.1); rintro e w69 ⟨v387, rfl, ho0, hb⟩; refine ⟨_, rfl, ?_⟩; have n0_ := Aside0.mk (Kd.V_below q113_ hb); have n1_ := Aside0.mk (Kd.N_below q67_ hb); have n2_ := Aside0.mk (Kd.R_below q77_ hb); have n3_ := Aside0.mk (Kd.R_below q27_ hb); have n4_ := Aside0.mk (Kd.V_lower (Kd.V_mono (ok' := fun k_ => (w.heap.size ≤ k_) ∧ some k_ ≠ (u369001 : Value).ownBlock ∧ some k_ ≠ (u369002 : Value).ownBlock ∧ some k_ ≠ (.slice Ao68 t372.length co68 : Value).ownBlock ∧ k_ ≠ gb357 ∧ k_ ≠ gb367 ∧ k_ ≠ gb368 ∧ k_ ≠ gb376) ho0 (fun k_ hk_ => ⟨(Nat.le_trans (below_size q13_) hk_), (Kd.fresh' (Kd.N_lt q67_) k_ hk_), (Kd.fresh' (Kd.R_lt q77_) k_ hk_), (Kd.fresh' (Kd.R_lt q27_) k_ hk_), (Kd.freshB (g := gb357) (o := .cells #[.int .i64 x358000_3, .slice none 0 0, .slice none 0 0] 25 (0, 0)) q52_ k_ hk_), (Kd.freshB (g := gb367) (o := .cells #[.int .i64 t358, .int .i64 t359, .int .i64 t360, .int .i64 t361, .int .i64 t362] 62 (0, 0)) q53_ k_ hk_), (Kd.freshB (g := gb368) (o := .cells #[.int .i64 t361, u369001, u369002] 25 (0, 0)) q54_ k_ hk_), (Kd.freshB (g := gb376) (o := .cells #[.int .i64 t369, .int .i64 t370, .int .i64 t371] 35 (0, 0)) q36_ k_ hk_)⟩)) (below_size q13_)); have n5_ := Aside0.mk (blk_below (g := gb357) (o := .cells #[.int .i64 x358000_3, .slice none 0 0, .slice none 0 0] 25 (0, 0)) q52_ hb); have n6_ := Aside0.mk (blk_below (g := gb367) (o := .cells #[.int .i64 t358, .int .i64 t359, .int .i64 t360, .int .i64 t361, .int .i64 t362] 62 (0, 0)) q53_ hb); have n7_ := Aside0.mk (blk_below (g := gb368) (o := .cells #[.int .i64 t361, u369001, u369002] 25 (0, 0)) q54_ hb); have n8_ := Aside0.mk (blk_below (g := gb376) (o := .cells #[.int .i64 t369, .int .i64 t370, .int .i64 t371] 35 (0, 0)) q36_ hb); have n9_ := Aside0.mk (below_step q13_ hb); clear HO_7; clear HO_369001; clear HO_369002; clear HO374; clear BK357; clear BK367; clear BK368; clear BK376; clear HB; have HO_7 := n0_; have HO_369001 := n1_; have HO_369002 := n2_; have HO374 := n3_; have HO388 := n4_; have BK357 := n5_; have BK367 := n6_; have BK368 := n7_; have BK376 := n8_; have HB := n9_; clear n0_ n1_ n2_ n3_ n4_ n5_ n6_ n7_ n8_ n9_; (try clear hb); (try clear hb2); (try clear hk); (try clear hi); (try clear ho0); have hcz70_0 : w69.cell? ⟨gb368, 0, none⟩ = some (.int .i64 t361) := (blk_cell BK368.out 0).trans rfl; have hcz70_1 : w69.cell? ⟨gb368, 1, none⟩ = some (u369001) := (blk_cell BK368.out 1).trans rfl; have hcz70_2 : w69.cell? ⟨gb368, 2, none⟩ = some (u369002) := (blk_cell BK368.out 2).trans rfl; have hfz70_0 := blk_frozen BK368.out 0; have hfz70_1 := blk_frozen BK368.out 1; have hfz70_2 := blk_frozen BK368.out 2; have hcz71_0 : w69.cell? ⟨gb376, 0, none⟩ = some (.int .i64 t369) := (blk_cell BK376.out 0).trans rfl; have hcz71_1 : w69.cell? ⟨gb376, 1, none⟩ = some (.int .i64 t370) := (blk_cell BK376.out 1).trans rfl; have hcz71_2 : w69.cell? ⟨gb376, 2, none⟩ = some (.int .i64 t371) := (blk_cell BK376.out 2).trans rfl; have hfz71_0 := blk_frozen BK376.out 0; have hfz71_1 := blk_frozen BK376.out 1; have hfz71_2 := blk_frozen BK376.out 2) | ((with_reducible refine gate_conv (src := 9) (dst := 29) rfl ?_); refine convL_ (some 97) rfl rfl (.string t385) rfl (by rfl) ?_; (with_reducible refine (bytes_conv.calls t385 t390 _ A56.out).mono ?_); rintro e w72 ⟨v391, rfl, ho0, hb⟩; refine ⟨_, rfl, ?_⟩; have n0_ := Aside0.mk (Kd.V_below q28_ hb); have n1_ := Aside0.mk (Kd.N_below q76_ hb); have n2_ := Aside0.mk (Kd.R_below q61_ hb); have n3_ := Aside0.mk (Kd.R_below q118_ hb); have n4_ := Aside0.mk (Kd.V_below (by (with_reducible repeat (first | apply Kd.V_alloc | apply Kd.V_drewN | apply Kd.V_drew)); exact HO388.out) hb); have n5_ := Aside0.mk (Kd.V_lower (Kd.V_mono (ok' := fun k_ => (w.heap.size ≤ k_) ∧ some k_ ≠ (u369001 : Value).ownBlock ∧ some k_ ≠ (u369002 : Value).ownBlock ∧ some k_ ≠ (.slice Ao68 t372.length co68 : Value).ownBlock ∧ k_ ≠ gb357 ∧ k_ ≠ gb367 ∧ k_ ≠ gb368 ∧ k_ ≠ gb376) ho0 (fun k_ hk_ => ⟨(Nat.le_trans (below_size q13_) hk_), (Kd.fresh' (Kd.N_lt q76_) k_ hk_), (Kd.fresh' (Kd.R_lt q61_) k_ hk_), (Kd.fresh' (Kd.R_lt q118_) k_ hk_), (Kd.freshB (g := gb357) (o := .cells #[.int .i64 x358000_3, .slice none 0 0, .slice none 0 0] 25 (0, 0)) q15_ k_ hk_), (Kd.freshB (g := gb367) (o := .cells #[.int .i64 t358, .int .i64 t359, .int .i64 t360, .int .i64 t361, .int .i64 t362] 62 (0, 0)) q24_ k_ hk_), (Kd.freshB (g := gb368) (o := .cells #[.int .i64 t361, u369001, u369002] 25 (0, 0)) q32_ k_ hk_), (Kd.freshB (g := gb376) (o := .cells #[.int .i64 t369, .int .i64 t370, .int .i64 t371] 35 (0, 0)) q194_ k_ hk_)⟩)) (below_size q13_)); have n6_ := Aside0.mk (blk_below (g := gb357) (o := .cells #[.int .i64 x358000_3, .slice none 0 0, .slice none 0 0] 25 (0, 0)) q15_ hb); have n7_ := Aside0.mk (blk_below (g := gb367) (o := .cells #[.int .i64 t358, .int .i64 t359, .int .i64 t360, .int .i64 t361, .int .i64 t362] 62 (0, 0)) q24_ hb); have n8_ := Aside0.mk (blk_below (g := gb368) (o := .cells #[.int .i64 t361, u369001, u369002] 25 (0, 0)) q32_ hb); have n9_ := Aside0.mk (blk_below (g := gb376) (o := .cells #[.int .i64 t369, .int .i64 t370, .int .i64 t371] 35 (0, 0)) q194_ hb); have n10_ := Aside0.mk (below_step q13_ hb); clear HO_7; clear HO_369001; clear HO_369002; clear HO374; clear HO388; clear BK357; clear BK367; clear BK368; clear BK376; clear HB; have HO_7 := n0_; have HO_369001 := n1_; have HO_369002 := n2_; have HO374 := n3_; have HO388 := n4_; have HO392 := n5_; have BK357 := n6_; have BK367 := n7_; have BK368 := n8_; have BK376 := n9_; have HB := n10_; clear n0_ n1_ n2_ n3_ n4_ n5_ n6_ n7_ n8_ n9_ n10_; (try clear hb); (try clear hb2); (try clear hk); (try clear hi); (try clear ho0); obtain ⟨Ao73, co73, eo73⟩ := Kd.V_slice HO392.out; subst eo73) | ((with_reducible refine gate_builtin (b := .append) (xs := #[.tmp 94, .tmp 99]) rfl ?_); at_builtin; refine Kd.N_append k52 (w0 := w) w.heap.size rfl (.tmp 94) (.tmp 99) 22 52 (.agg #[(.int .i64 0), (.int .i64 0), (.int .i64 0), (.slice none 0 0)]) 48 rfl Try.underlying22 info52 rfl q210_ (by omega) u369001 x369001_3 (⟨(⟨t369, t370, t371⟩ : S35), t390⟩ : S52) [.int .i64 t369, .int .i64 t370, .int .i64 t371, .slice Ao73 t390.length co73] (fun k_ => (w.heap.size ≤ k_) ∧ some k_ ≠ (u369002 : Value).ownBlock ∧ some k_ ≠ (.slice Ao68 t372.length co68 : Value).ownBlock ∧ k_ ≠ gb357 ∧ k_ ≠ gb367 ∧ k_ ≠ gb368 ∧ k_ ≠ gb376) (fun k_ => ((fun k_ => (w.heap.size ≤ k_) ∧ some k_ ≠ (u369002 : Value).ownBlock ∧ some k_ ≠ (.slice Ao68 t372.length co68 : Value).ownBlock ∧ k_ ≠ gb357 ∧ k_ ≠ gb367 ∧ k_ ≠ gb368 ∧ k_ ≠ gb376)) k_ ∧ some k_ ≠ (u369001 : Value).ownBlock) rfl rfl ?aP (fun _ hk => hk) ?aF ?aO ?aB ?aS ?aL ?_; (case aP => exact (k52_mkF _ _ (⟨(⟨t369, t370, t371⟩ : S35), t390⟩ : S52) (Kd.V_reads' (Kd.V_mono (ok' := (fun k_ => ((fun k_ => (w.heap.size ≤ k_) ∧ some k_ ≠ (u369002 : Value).ownBlock ∧ some k_ ≠ (.slice Ao68 t372.length co68 : Value).ownBlock ∧ k_ ≠ gb357 ∧ k_ ≠ gb367 ∧ k_ ≠ gb368 ∧ k_ ≠ gb376)) k_ ∧ some k_ ≠ (u369001 : Value).ownBlock)) (HO392.out) (fun k_ hk => ⟨⟨hk.1, ⟨hk.2.2.1, ⟨hk.2.2.2.1, ⟨hk.2.2.2.2.1, ⟨hk.2.2.2.2.2.1, ⟨hk.2.2.2.2.2.2.1, hk.2.2.2.2.2.2.2⟩⟩⟩⟩⟩⟩, hk.2.1⟩))).2.1 (Kd.V_F (Kd.V_mono (ok' := (fun k_ => ((fun k_ => (w.heap.size ≤ k_) ∧ some k_ ≠ (u369002 : Value).ownBlock ∧ some k_ ≠ (.slice Ao68 t372.length co68 : Value).ownBlock ∧ k_ ≠ gb357 ∧ k_ ≠ gb367 ∧ k_ ≠ gb368 ∧ k_ ≠ gb376)) k_ ∧ some k_ ≠ (u369001 : Value).ownBlock)) (HO392.out) (fun k_ hk => ⟨⟨hk.1, ⟨hk.2.2.1, ⟨hk.2.2.2.1, ⟨hk.2.2.2.2.1, ⟨hk.2.2.2.2.2.1, ⟨hk.2.2.2.2.2.2.1, hk.2.2.2.2.2.2.2⟩⟩⟩⟩⟩⟩, hk.2.1⟩))))); (case aB => exact q13_); (case aF => exact (fun k_ hk => ⟨(Nat.le_trans (below_size q13_) hk), Kd.fresh' (Kd.R_lt q61_) k_ hk, Kd.fresh' (Kd.R_lt q118_) k_ hk, Kd.freshB (g := gb357) (o := .cells #[.int .i64 x358000_3, .slice none 0 0, .slice none 0 0] 25 (0, 0)) q15_ k_ hk, Kd.freshB (g := gb367) (o := .cells #[.int .i64 t358, .int .i64 t359, .int .i64 t360, .int .i64 t361, .int .i64 t362] 62 (0, 0)) q24_ k_ hk, Kd.freshB (g := gb368) (o := .cells #[.int .i64 t361, u369001, u369002] 25 (0, 0)) q32_ k_ hk, Kd.freshB (g := gb376) (o := .cells #[.int .i64 t369, .int .i64 t370, .int .i64 t371] 35 (0, 0)) q194_ k_ hk⟩)); (case aO => exact (by (with_reducible repeat (first | apply Kd.N_alloc | apply Kd.N_drewN | apply Kd.N_drew)); exact Kd.N_mono HO_369001.out (fun _ hk => ⟨hk.1.1.1, ⟨hk.1.1.2.1, ⟨hk.1.2, ⟨hk.1.1.2.2.1, ⟨hk.1.1.2.2.2.1, ⟨hk.1.1.2.2.2.2, hk.2⟩⟩⟩⟩⟩⟩))); (case aS => exact (below_size q13_)); (case aL => have := LMc57.out; omega); intro v394 w74 ho hb hg hat; rw [← Ny393.out] at ho; have n0_ := Aside0.mk (Kd.V_afterv (ok := (fun k_ => (w.heap.size ≤ k_) ∧ some k_ ≠ (u369002 : Value).ownBlock ∧ some k_ ≠ (.slice Ao68 t372.length co68 : Value).ownBlock ∧ k_ ≠ gb357 ∧ k_ ≠ gb367 ∧ k_ ≠ gb368 ∧ k_ ≠ gb376)) (by (with_reducible repeat (first | apply Kd.V_alloc | apply Kd.V_drewN | apply Kd.V_drew)); exact Kd.V_mono HO_7.out (fun _ hk => ⟨⟨hk.1.1.1, ⟨hk.1.1.2.2.1, ⟨hk.1.2, ⟨hk.1.1.2.2.2.1, ⟨hk.1.1.2.2.2.2.1, ⟨hk.1.1.2.2.2.2.2, hk.2⟩⟩⟩⟩⟩⟩, hk.1.1.2.1⟩)) hg hat); have n1_ := Aside0.mk (Kd.R_over' q61_ (Kd.N_typed q76_) q210_ hg); have n2_ := Aside0.mk (blk_grown (g := gb357) (o := .cells #[.int .i64 x358000_3, .slice none 0 0, .slice none 0 0] 25 (0, 0)) q15_ hg (Kd.N_ne HO_369001.out BK357.out q210_)); have n3_ := Aside0.mk (blk_grown (g := gb367) (o := .cells #[.int .i64 t358, .int .i64 t359, .int .i64 t360, .int .i64 t361, .int .i64 t362] 62 (0, 0)) q24_ hg (Kd.N_ne HO_369001.out BK367.out q210_)); have n4_ := Aside0.mk (blk_grown (g := gb368) (o := .cells #[.int .i64 t361, u369001, u369002] 25 (0, 0)) q32_ hg (Kd.N_ne HO_369001.out BK368.out q210_)); have n5_ := Aside0.mk (Kd.R_over' q118_ (Kd.N_typed q76_) q210_ hg); have n6_ := Aside0.mk (blk_grown (g := gb376) (o := .cells #[.int .i64 t369, .int .i64 t370, .int .i64 t371] 35 (0, 0)) q194_ hg (Kd.N_ne HO_369001.out BK376.out q210_)); have n7_ := Aside0.mk (Kd.V_afterv (ok := (fun k_ => (w.heap.size ≤ k_) ∧ some k_ ≠ (u369002 : Value).ownBlock ∧ some k_ ≠ (.slice Ao68 t372.length co68 : Value).ownBlock ∧ k_ ≠ gb357 ∧ k_ ≠ gb367 ∧ k_ ≠ gb368 ∧ k_ ≠ gb376)) (by (with_reducible repeat (first | apply Kd.V_alloc | apply Kd.V_drewN | apply Kd.V_drew)); exact Kd.V_mono HO388.out (fun _ hk => ⟨⟨hk.1, ⟨hk.2.2.1, ⟨hk.2.2.2.1, ⟨hk.2.2.2.2.1, ⟨hk.2.2.2.2.2.1, ⟨hk.2.2.2.2.2.2.1, hk.2.2.2.2.2.2.2⟩⟩⟩⟩⟩⟩, hk.2.1⟩)) hg hat); have n8_ := Aside0.mk (Kd.V_afterv (ok := (fun k_ => (w.heap.size ≤ k_) ∧ some k_ ≠ (u369002 : Value).ownBlock ∧ some k_ ≠ (.slice Ao68 t372.length co68 : Value).ownBlock ∧ k_ ≠ gb357 ∧ k_ ≠ gb367 ∧ k_ ≠ gb368 ∧ k_ ≠ gb376)) (by (with_reducible repeat (first | apply Kd.V_alloc | apply Kd.V_drewN | apply Kd.V_drew)); exact Kd.V_mono HO392.out (fun _ hk => ⟨⟨hk.1, ⟨hk.2.2.1, ⟨hk.2.2.2.1, ⟨hk.2.2.2.2.1, ⟨hk.2.2.2.2.2.1, ⟨hk.2.2.2.2.2.2.1, hk.2.2.2.2.2.2.2⟩⟩⟩⟩⟩⟩, hk.2.1⟩)) hg hat); have n9_ := Aside0.mk (hb); have n10_ := Aside0.mk (ho); clear HO_7; clear HO_369002; clear BK357; clear BK367; clear BK368; clear HO374; clear BK376; clear HO388; clear HO392; clear HB; clear HO_369001; have HO_7 := n0_; have HO_369002 := n1_; have BK357 := n2_; have BK367 := n3_; have BK368 := n4_; have HO374 := n5_; have BK376 := n6_; have HO388 := n7_; have HO392 := n8_; have HB := n9_; have HO395 := n10_; clear n0_ n1_ n2_ n3_ n4_ n5_ n6_ n7_ n8_ n9_ n10_; clear ho hb hg hat; obtain ⟨Ao75, co75, eo75⟩ := Kd.N_slice HO395.out; subst eo75; have hcz76_0 : w74.cell? ⟨gb368, 0, none⟩ = some (.int .i64 t361) := (blk_cell BK368.out 0).trans rfl; have hcz76_1 : w74.cell? ⟨gb368, 1, none⟩ = some (u369001) := (blk_cell BK368.out 1).trans rfl; have hcz76_2 : w74.cell? ⟨gb368, 2, none⟩ = some (u369002) := (blk_cell BK368.out 2).trans rfl; have hfz76_0 := blk_frozen BK368.out 0; have hfz76_1 := blk_frozen BK368.out 1; have hfz76_2 := blk_frozen BK368.out 2))
             go_roundg k3
             case measure => have := HJ3.out; have := HJ10.out; have := HK3.out; omega
             case rel => exact ⟨(t386), (wrap64 (x55_3 + 1)), (x358000_3), (y393), (x369002_3), (.slice Ao75 y393.length co75), (u369002), q14_, H', ⟨by have := HJ3.out; have := HJ10.out; have := HK3.out; omega⟩, ⟨by (with_reducible repeat (first | apply Kd.V_alloc | apply Kd.V_drewN | apply Kd.V_drew)); exact Kd.V_mono (Kd.V_far (p := ⟨gb368, 1, none⟩) (Kd.V_mono HO388.out (fun k_ hk => (⟨hk, hk.1.2.2.2.2.2.1⟩ : _ ∧ k_ ≠ gb368))) (fun _ hk => hk.2) (.slice Ao75 y393.length co75)) (fun _ hk => ⟨hk.1.1.1, ⟨hk.1.2, ⟨hk.1.1.2.1, ⟨hk.1.1.2.2.2.1, ⟨hk.1.1.2.2.2.2.1, hk.1.1.2.2.2.2.2.1⟩⟩⟩⟩⟩)⟩, ⟨by (with_reducible repeat (first | apply Kd.N_alloc | apply Kd.N_drewN | apply Kd.N_drew)); exact Kd.N_mono (Kd.N_far (p := ⟨gb368, 1, none⟩) (Kd.N_mono HO395.out (fun k_ hk => (⟨hk, hk.2.2.2.2.2.1⟩ : _ ∧ k_ ≠ gb368))) (fun _ hk => hk.2) (.slice Ao75 y393.length co75)) (fun _ hk => ⟨hk.1.1, ⟨hk.1.2.1, ⟨hk.1.2.2.2.1, ⟨hk.1.2.2.2.2.1, hk.1.2.2.2.2.2.1⟩⟩⟩⟩)⟩, ⟨by (with_reducible repeat (first | apply Kd.R_alloc | apply Kd.R_drewN | apply Kd.R_drew)); exact Kd.R_mono (Kd.R_far (p := ⟨gb368, 1, none⟩) (Kd.R_types HO_369002.out BK368.out q210_) (fun _ hk => hk.2) (.slice Ao75 y393.length co75)) (fun _ hk => hk.1)⟩, ⟨by (with_reducible repeat (first | refine blk_drewN ?_ _ | refine blk_drew ?_ | refine blk_alloc ?_ _)); refine blk_far ?_ NB357_368.out _; (with_reducible repeat (first | refine blk_drewN ?_ _ | refine blk_drew ?_ | refine blk_alloc ?_ _)); exact BK357.out⟩, ⟨by (with_reducible repeat (first | refine blk_drewN ?_ _ | refine blk_drew ?_ | refine blk_alloc ?_ _)); refine blk_far ?_ NB367_368.out _; (with_reducible repeat (first | refine blk_drewN ?_ _ | refine blk_drew ?_ | refine blk_alloc ?_ _)); exact BK367.out⟩, ⟨by (with_reducible repeat (first | refine blk_drewN ?_ _ | refine blk_drew ?_ | refine blk_alloc ?_ _)); refine blk_put (cs := #[.int .i64 t361, u369001, u369002]) ?_ 1 _ rfl; (with_reducible repeat (first | refine blk_drewN ?_ _ | refine blk_drew ?_ | refine blk_alloc ?_ _)); exact BK368.out⟩, ⟨q13_⟩⟩
            ·rw [if_neg c57] at H
             exact absurd H (by simp)
           ·rw [if_neg c55] at H
            have c55b0 : (t389 == 0) = false := beq_eq_false_iff_ne.mpr c55
            have c55b1 : (t389 != 0) = true := bne_iff_ne.mpr c55
            simp only [Option.some.injEq, Prod.mk.injEq] at H
            obtain ⟨rfl, rfl, rfl, rfl⟩ := H
            obtain ⟨Ao77, co77, eo77⟩ := Kd.V_slice HO_7.out
            subst eo77
            go_wp2_with (first | ((with_reducible refine gate_callee (f := 44) rfl ?_); refine goesL_ (some 59) rfl rfl Try.func44 q8_ rfl #[.slice Ao77 x7_3.length co77] rfl q1_ ?_; (with_reducible refine (key_Take.calls _ _ x7_3 t369 t370 t371 t372 t375 _ ?side1 ?side2 A32.out).mono ?_); (case side1 => repeat (first | exact (Kd.V_reads' HO_7.out).2.2 | (with_reducible refine Kd.C_alloc ?_ _) | (with_reducible refine Kd.C_drewN ?_ _) | (with_reducible refine Kd.C_drew ?_))); (case side2 => exact (Kd.V_reads' HO_7.out).2.1); rintro e w78 ⟨v373, rfl, ho0, hb⟩; refine ⟨_, rfl, ?_⟩; have n0_ := Aside0.mk (Kd.V_elder' q28_ (Kd.R_base ho0) hb); have n1_ := Aside0.mk (Kd.N_elder' q76_ (Kd.R_base ho0) hb); have n2_ := Aside0.mk (Kd.R_below q61_ hb); have n3_ := Aside0.mk (Kd.R_lower (Kd.R_newM (M := fun k_ => (w.heap.size ≤ k_)) ho0 (below_size q7_) (fun k_ h_ => h_)) (below_size q7_)); have n4_ := Aside0.mk (blk_below (g := gb357) (o := .cells #[.int .i64 x358000_3, .slice none 0 0, .slice none 0 0] 25 (0, 0)) q15_ hb); have n5_ := Aside0.mk (blk_below (g := gb367) (o := .cells #[.int .i64 t358, .int .i64 t359, .int .i64 t360, .int .i64 t361, .int .i64 t362] 62 (0, 0)) q24_ hb); have n6_ := Aside0.mk (blk_below (g := gb368) (o := .cells #[.int .i64 t361, u369001, u369002] 25 (0, 0)) q32_ hb); have n7_ := Aside0.mk (below_step q7_ hb); clear HO_7; clear HO_369001; clear HO_369002; clear BK357; clear BK367; clear BK368; clear HB; have HO_7 := n0_; have HO_369001 := n1_; have HO_369002 := n2_; have HO374 := n3_; have BK357 := n4_; have BK367 := n5_; have BK368 := n6_; have HB := n7_; clear n0_ n1_ n2_ n3_ n4_ n5_ n6_ n7_; (try clear hb); (try clear hb2); (try clear hk); (try clear hi); (try clear ho0)) | ((with_reducible refine gate_dst (N := 11) rfl ?_); refine box_event ?hg (N := 11) ?hd (cs := #[.int .i64 0, .int .i64 0, .int .i64 0]) (t := 35) ?hr ?_; (case hd => rfl); (case hg => rfl); (case hr => first | (go_simp; done) | (go_simp; rfl)); intro gb376 hg w79 hbox hb; have n0_ := Aside0.mk (Kd.V_below (Kd.V_elderB q28_ gb376 (Nat.le_of_eq hg.symm)) hb); have n1_ := Aside0.mk (Kd.N_below (Kd.N_elderB q76_ gb376 (Nat.le_of_eq hg.symm)) hb); have n2_ := Aside0.mk (Kd.R_below q61_ hb); have n3_ := Aside0.mk (Kd.R_below q118_ hb); have n4_ := Aside0.mk (blk_below (g := gb357) (o := .cells #[.int .i64 x358000_3, .slice none 0 0, .slice none 0 0] 25 (0, 0)) q15_ hb); have n5_ := Aside0.mk (blk_below (g := gb367) (o := .cells #[.int .i64 t358, .int .i64 t359, .int .i64 t360, .int .i64 t361, .int .i64 t362] 62 (0, 0)) q24_ hb); have n6_ := Aside0.mk (blk_below (g := gb368) (o := .cells #[.int .i64 t361, u369001, u369002] 25 (0, 0)) q32_ hb); have n7_ := Aside0.mk (below_step q7_ hb); have n8_ := Aside0.mk (hbox); have n9_ := Aside0.mk ((by rw [hg]; exact (below_size q7_) : w.heap.size ≤ gb376)); have n10_ := Aside0.mk ((by rw [hg]; exact (below_size q7_) : w.heap.size ≤ gb376)); have n11_ := Aside0.mk ((q217_ : gb357 ≠ gb376)); have n12_ := Aside0.mk ((q218_ : gb376 ≠ gb357)); have n13_ := Aside0.mk ((q142_ : gb367 ≠ gb376)); have n14_ := Aside0.mk ((q143_ : gb376 ≠ gb367)); have n15_ := Aside0.mk ((by rw [hg]; exact Nat.ne_of_lt (blk_lt (g := gb368) (o := .cells #[.int .i64 t361, u369001, u369002] 25 (0, 0)) q32_) : gb368 ≠ gb376)); have n16_ := Aside0.mk ((by rw [hg]; exact Nat.ne_of_gt (blk_lt (g := gb368) (o := .cells #[.int .i64 t361, u369001, u369002] 25 (0, 0)) q32_) : gb376 ≠ gb368)); clear HO_7; clear HO_369001; clear HO_369002; clear HO374; clear BK357; clear BK367; clear BK368; clear HB; have HO_7 := n0_; have HO_369001 := n1_; have HO_369002 := n2_; have HO374 := n3_; have BK357 := n4_; have BK367 := n5_; have BK368 := n6_; have HB := n7_; have BK376 := n8_; have GW376 := n9_; have GE376 := n10_; have NB357_376 := n11_; have NB376_357 := n12_; have NB367_376 := n13_; have NB376_367 := n14_; have NB368_376 := n15_; have NB376_368 := n16_; clear n0_ n1_ n2_ n3_ n4_ n5_ n6_ n7_ n8_ n9_ n10_ n11_ n12_ n13_ n14_ n15_ n16_; clear hb hbox hg; have hnb80 := NB376_357.out; have hnc80 := NB357_376.out; have hnb81 := NB376_367.out; have hnc81 := NB367_376.out; have hnb82 := NB376_368.out; have hnc82 := NB368_376.out; have hcz83_0 : w79.cell? ⟨gb376, 0, none⟩ = some (.int .i64 0) := (blk_cell BK376.out 0).trans rfl; have hcz83_1 : w79.cell? ⟨gb376, 1, none⟩ = some (.int .i64 0) := (blk_cell BK376.out 1).trans rfl; have hcz83_2 : w79.cell? ⟨gb376, 2, none⟩ = some (.int .i64 0) := (blk_cell BK376.out 2).trans rfl; have hfz83_0 := blk_frozen BK376.out 0; have hfz83_1 := blk_frozen BK376.out 1; have hfz83_2 := blk_frozen BK376.out 2; have hnb84 := NB368_357.out; have hnc84 := NB357_368.out; have hnb85 := NB368_367.out; have hnc85 := NB367_368.out; have hcz86_0 : w79.cell? ⟨gb368, 0, none⟩ = some (.int .i64 t361) := (blk_cell BK368.out 0).trans rfl; have hcz86_1 : w79.cell? ⟨gb368, 1, none⟩ = some (u369001) := (blk_cell BK368.out 1).trans rfl; have hcz86_2 : w79.cell? ⟨gb368, 2, none⟩ = some (u369002) := (blk_cell BK368.out 2).trans rfl; have hfz86_0 := blk_frozen BK368.out 0; have hfz86_1 := blk_frozen BK368.out 1; have hfz86_2 := blk_frozen BK368.out 2; obtain ⟨Ao87, co87, eo87⟩ := Kd.R_slice HO374.out; subst eo87) | ((with_reducible refine gate_callee (f := 46) rfl ?_); refine goesL_ (some 86) rfl rfl Try.func46 q8_ rfl #[.slice Ao87 t372.length co87] rfl q1_ ?_; (with_reducible refine (num_TakeText.calls _ _ t372 t385 t386 t389 _ ?side1 ?side2 A54.out).mono ?_); (case side1 => refine (Kd.R_reads' (e := 5) (base := w.heap.size) (ok := fun k_ => ((w.heap.size ≤ k_) ∧ True)) (n := t372.length) (c := co87) ?_).2.2; exact q27_); (case side2 => exact (Kd.R_reads' HO374.out).2.1); rintro e w88 ⟨v387, rfl, ho0, hb⟩; refine ⟨_, rfl, ?_⟩; have n0_ := Aside0.mk (Kd.V_below q113_ hb); have n1_ := Aside0.mk (Kd.N_below q67_ hb); have n2_ := Aside0.mk (Kd.R_below q77_ hb); have n3_ := Aside0.mk (Kd.R_below q27_ hb); have n4_ := Aside0.mk (Kd.V_lower (Kd.V_mono (ok' := fun k_ => (w.heap.size ≤ k_) ∧ some k_ ≠ (u369001 : Value).ownBlock ∧ some k_ ≠ (u369002 : Value).ownBlock ∧ some k_ ≠ (.slice Ao87 t372.length co87 : Value).ownBlock ∧ k_ ≠ gb357 ∧ k_ ≠ gb367 ∧ k_ ≠ gb368 ∧ k_ ≠ gb376) ho0 (fun k_ hk_ => ⟨(Nat.le_trans (below_size q13_) hk_), (Kd.fresh' (Kd.N_lt q67_) k_ hk_), (Kd.fresh' (Kd.R_lt q77_) k_ hk_), (Kd.fresh' (Kd.R_lt q27_) k_ hk_), (Kd.freshB (g := gb357) (o := .cells #[.int .i64 x358000_3, .slice none 0 0, .slice none 0 0] 25 (0, 0)) q52_ k_ hk_), (Kd.freshB (g := gb367) (o := .cells #[.int .i64 t358, .int .i64 t359, .int .i64 t360, .int .i64 t361, .int .i64 t362] 62 (0, 0)) q53_ k_ hk_), (Kd.freshB (g := gb368) (o := .cells #[.int .i64 t361, u369001, u369002] 25 (0, 0)) q54_ k_ hk_), (Kd.freshB (g := gb376) (o := .cells #[.int .i64 t369, .int .i64 t370, .int .i64 t371] 35 (0, 0)) q36_ k_ hk_)⟩)) (below_size q13_)); have n5_ := Aside0.mk (blk_below (g := gb357) (o := .cells #[.int .i64 x358000_3, .slice none 0 0, .slice none 0 0] 25 (0, 0)) q52_ hb); have n6_ := Aside0.mk (blk_below (g := gb367) (o := .cells #[.int .i64 t358, .int .i64 t359, .int .i64 t360, .int .i64 t361, .int .i64 t362] 62 (0, 0)) q53_ hb); have n7_ := Aside0.mk (blk_below (g := gb368) (o := .cells #[.int .i64 t361, u369001, u369002] 25 (0, 0)) q54_ hb); have n8_ := Aside0.mk (blk_below (g := gb376) (o := .cells #[.int .i64 t369, .int .i64 t370, .int .i64 t371] 35 (0, 0)) q36_ hb); have n9_ := Aside0.mk (below_step q13_ hb); clear HO_7; clear HO_369001; clear HO_369002; clear HO374; clear BK357; clear BK367; clear BK368; clear BK376; clear HB; have HO_7 := n0_; have HO_369001 := n1_; have HO_369002 := n2_; have HO374 := n3_; have HO388 := n4_; have BK357 := n5_; have BK367 := n6_; have BK368 := n7_; have BK376 := n8_; have HB := n9_; clear n0_ n1_ n2_ n3_ n4_ n5_ n6_ n7_ n8_ n9_; (try clear hb); (try clear hb2); (try clear hk); (try clear hi); (try clear ho0); have hnb89 := NB357_367.out; have hnc89 := NB367_357.out; have hcz90_0 : w88.cell? ⟨gb357, 0, none⟩ = some (.int .i64 x358000_3) := (blk_cell BK357.out 0).trans rfl; have hcz90_1 : w88.cell? ⟨gb357, 1, none⟩ = some (.slice none 0 0) := (blk_cell BK357.out 1).trans rfl; have hcz90_2 : w88.cell? ⟨gb357, 2, none⟩ = some (.slice none 0 0) := (blk_cell BK357.out 2).trans rfl; have hfz90_0 := blk_frozen BK357.out 0; have hfz90_1 := blk_frozen BK357.out 1; have hfz90_2 := blk_frozen BK357.out 2))
            refine bodyPost_ret (results_ct rfl _ _ gb357 25 #[.int .i64 0, .slice none 0 0, .slice none 0 0] (0, 0) _ rfl (by (with_reducible repeat (first | refine blk_drewN ?_ _ | refine blk_drew ?_ | refine blk_alloc ?_ _)); refine blk_put (cs := #[.int .i64 0, .slice none 0 0, .slice none 0 0]) ?_ 2 _ rfl; (with_reducible repeat (first | refine blk_drewN ?_ _ | refine blk_drew ?_ | refine blk_alloc ?_ _)); refine blk_put (cs := #[.int .i64 0, .slice none 0 0, .slice none 0 0]) ?_ 1 _ rfl; (with_reducible repeat (first | refine blk_drewN ?_ _ | refine blk_drew ?_ | refine blk_alloc ?_ _)); refine blk_put (cs := #[.int .i64 x358000_3, .slice none 0 0, .slice none 0 0]) ?_ 0 _ rfl; (with_reducible repeat (first | refine blk_drewN ?_ _ | refine blk_drew ?_ | refine blk_alloc ?_ _)); exact BK357.out) Try.underlying25 rfl q8_) rfl ?_
            exact ⟨_, _, by first | rfl | (simp [errW_none, errW_some] <;> rfl) | (simp [*, errW_none, errW_some] <;> rfl), by first | exact Kd.S_nil _ _ _ _ _ | exact Kd.N_nil _ _ _ _ _ | exact Kd.V_nil _ _ _ _ _ | exact Kd.Q_nil _ _ _ _ _ | exact Kd.R_nil _ _ _ _ _, by first | exact Kd.R_nil _ _ _ _ _ | exact Kd.N_nil _ _ _ _ _ | exact Kd.V_nil _ _ _ _ _ | exact Kd.Q_nil _ _ _ _ _ | exact Kd.S_nil _ _ _ _ _, by repeat (first | (with_reducible first | exact HB.out | apply below_alloc | apply pw_below_drewN | apply below_drew1 | refine below_set ?_ GE357.out | refine below_set ?_ GE367.out | refine below_set ?_ GE368.out | refine below_set ?_ GE376.out) | exact HB.out)⟩
         ·rw [if_neg c33] at H
          have c33b0 : (t375 == 0) = false := beq_eq_false_iff_ne.mpr c33
          have c33b1 : (t375 != 0) = true := bne_iff_ne.mpr c33
          simp only [Option.some.injEq, Prod.mk.injEq] at H
          obtain ⟨rfl, rfl, rfl, rfl⟩ := H
          obtain ⟨Ao91, co91, eo91⟩ := Kd.V_slice HO_7.out
          subst eo91
          go_wp2_with (first | ((with_reducible refine gate_callee (f := 44) rfl ?_); refine goesL_ (some 59) rfl rfl Try.func44 q8_ rfl #[.slice Ao91 x7_3.length co91] rfl q1_ ?_; (with_reducible refine (key_Take.calls _ _ x7_3 t369 t370 t371 t372 t375 _ ?side1 ?side2 A32.out).mono ?_); (case side1 => repeat (first | exact (Kd.V_reads' HO_7.out).2.2 | (with_reducible refine Kd.C_alloc ?_ _) | (with_reducible refine Kd.C_drewN ?_ _) | (with_reducible refine Kd.C_drew ?_))); (case side2 => exact (Kd.V_reads' HO_7.out).2.1); rintro e w92 ⟨v373, rfl, ho0, hb⟩; refine ⟨_, rfl, ?_⟩; have n0_ := Aside0.mk (Kd.V_elder' q28_ (Kd.R_base ho0) hb); have n1_ := Aside0.mk (Kd.N_elder' q76_ (Kd.R_base ho0) hb); have n2_ := Aside0.mk (Kd.R_below q61_ hb); have n3_ := Aside0.mk (Kd.R_lower (Kd.R_newM (M := fun k_ => (w.heap.size ≤ k_)) ho0 (below_size q7_) (fun k_ h_ => h_)) (below_size q7_)); have n4_ := Aside0.mk (blk_below (g := gb357) (o := .cells #[.int .i64 x358000_3, .slice none 0 0, .slice none 0 0] 25 (0, 0)) q15_ hb); have n5_ := Aside0.mk (blk_below (g := gb367) (o := .cells #[.int .i64 t358, .int .i64 t359, .int .i64 t360, .int .i64 t361, .int .i64 t362] 62 (0, 0)) q24_ hb); have n6_ := Aside0.mk (blk_below (g := gb368) (o := .cells #[.int .i64 t361, u369001, u369002] 25 (0, 0)) q32_ hb); have n7_ := Aside0.mk (below_step q7_ hb); clear HO_7; clear HO_369001; clear HO_369002; clear BK357; clear BK367; clear BK368; clear HB; have HO_7 := n0_; have HO_369001 := n1_; have HO_369002 := n2_; have HO374 := n3_; have BK357 := n4_; have BK367 := n5_; have BK368 := n6_; have HB := n7_; clear n0_ n1_ n2_ n3_ n4_ n5_ n6_ n7_; (try clear hb); (try clear hb2); (try clear hk); (try clear hi); (try clear ho0)) | ((with_reducible refine gate_dst (N := 11) rfl ?_); refine box_event ?hg (N := 11) ?hd (cs := #[.int .i64 0, .int .i64 0, .int .i64 0]) (t := 35) ?hr ?_; (case hd => rfl); (case hg => rfl); (case hr => first | (go_simp; done) | (go_simp; rfl)); intro gb376 hg w93 hbox hb; have n0_ := Aside0.mk (Kd.V_below (Kd.V_elderB q28_ gb376 (Nat.le_of_eq hg.symm)) hb); have n1_ := Aside0.mk (Kd.N_below (Kd.N_elderB q76_ gb376 (Nat.le_of_eq hg.symm)) hb); have n2_ := Aside0.mk (Kd.R_below q61_ hb); have n3_ := Aside0.mk (Kd.R_below q118_ hb); have n4_ := Aside0.mk (blk_below (g := gb357) (o := .cells #[.int .i64 x358000_3, .slice none 0 0, .slice none 0 0] 25 (0, 0)) q15_ hb); have n5_ := Aside0.mk (blk_below (g := gb367) (o := .cells #[.int .i64 t358, .int .i64 t359, .int .i64 t360, .int .i64 t361, .int .i64 t362] 62 (0, 0)) q24_ hb); have n6_ := Aside0.mk (blk_below (g := gb368) (o := .cells #[.int .i64 t361, u369001, u369002] 25 (0, 0)) q32_ hb); have n7_ := Aside0.mk (below_step q7_ hb); have n8_ := Aside0.mk (hbox); have n9_ := Aside0.mk ((by rw [hg]; exact (below_size q7_) : w.heap.size ≤ gb376)); have n10_ := Aside0.mk ((by rw [hg]; exact (below_size q7_) : w.heap.size ≤ gb376)); have n11_ := Aside0.mk ((q217_ : gb357 ≠ gb376)); have n12_ := Aside0.mk ((q218_ : gb376 ≠ gb357)); have n13_ := Aside0.mk ((q142_ : gb367 ≠ gb376)); have n14_ := Aside0.mk ((q143_ : gb376 ≠ gb367)); have n15_ := Aside0.mk ((by rw [hg]; exact Nat.ne_of_lt (blk_lt (g := gb368) (o := .cells #[.int .i64 t361, u369001, u369002] 25 (0, 0)) q32_) : gb368 ≠ gb376)); have n16_ := Aside0.mk ((by rw [hg]; exact Nat.ne_of_gt (blk_lt (g := gb368) (o := .cells #[.int .i64 t361, u369001, u369002] 25 (0, 0)) q32_) : gb376 ≠ gb368)); clear HO_7; clear HO_369001; clear HO_369002; clear HO374; clear BK357; clear BK367; clear BK368; clear HB; have HO_7 := n0_; have HO_369001 := n1_; have HO_369002 := n2_; have HO374 := n3_; have BK357 := n4_; have BK367 := n5_; have BK368 := n6_; have HB := n7_; have BK376 := n8_; have GW376 := n9_; have GE376 := n10_; have NB357_376 := n11_; have NB376_357 := n12_; have NB367_376 := n13_; have NB376_367 := n14_; have NB368_376 := n15_; have NB376_368 := n16_; clear n0_ n1_ n2_ n3_ n4_ n5_ n6_ n7_ n8_ n9_ n10_ n11_ n12_ n13_ n14_ n15_ n16_; clear hb hbox hg; have hnb94 := NB376_357.out; have hnc94 := NB357_376.out; have hnb95 := NB376_367.out; have hnc95 := NB367_376.out; have hnb96 := NB376_368.out; have hnc96 := NB368_376.out; have hcz97_0 : w93.cell? ⟨gb376, 0, none⟩ = some (.int .i64 0) := (blk_cell BK376.out 0).trans rfl; have hcz97_1 : w93.cell? ⟨gb376, 1, none⟩ = some (.int .i64 0) := (blk_cell BK376.out 1).trans rfl; have hcz97_2 : w93.cell? ⟨gb376, 2, none⟩ = some (.int .i64 0) := (blk_cell BK376.out 2).trans rfl; have hfz97_0 := blk_frozen BK376.out 0; have hfz97_1 := blk_frozen BK376.out 1; have hfz97_2 := blk_frozen BK376.out 2; have hnb98 := NB357_367.out; have hnc98 := NB367_357.out; have hnb99 := NB357_368.out; have hnc99 := NB368_357.out; have hcz100_0 : w93.cell? ⟨gb357, 0, none⟩ = some (.int .i64 x358000_3) := (blk_cell BK357.out 0).trans rfl; have hcz100_1 : w93.cell? ⟨gb357, 1, none⟩ = some (.slice none 0 0) := (blk_cell BK357.out 1).trans rfl; have hcz100_2 : w93.cell? ⟨gb357, 2, none⟩ = some (.slice none 0 0) := (blk_cell BK357.out 2).trans rfl; have hfz100_0 := blk_frozen BK357.out 0; have hfz100_1 := blk_frozen BK357.out 1; have hfz100_2 := blk_frozen BK357.out 2))
          refine bodyPost_ret (results_ct rfl _ _ gb357 25 #[.int .i64 0, .slice none 0 0, .slice none 0 0] (0, 0) _ rfl (by (with_reducible repeat (first | refine blk_drewN ?_ _ | refine blk_drew ?_ | refine blk_alloc ?_ _)); refine blk_put (cs := #[.int .i64 0, .slice none 0 0, .slice none 0 0]) ?_ 2 _ rfl; (with_reducible repeat (first | refine blk_drewN ?_ _ | refine blk_drew ?_ | refine blk_alloc ?_ _)); refine blk_put (cs := #[.int .i64 0, .slice none 0 0, .slice none 0 0]) ?_ 1 _ rfl; (with_reducible repeat (first | refine blk_drewN ?_ _ | refine blk_drew ?_ | refine blk_alloc ?_ _)); refine blk_put (cs := #[.int .i64 x358000_3, .slice none 0 0, .slice none 0 0]) ?_ 0 _ rfl; (with_reducible repeat (first | refine blk_drewN ?_ _ | refine blk_drew ?_ | refine blk_alloc ?_ _)); refine blk_far ?_ NB357_376.out _; (with_reducible repeat (first | refine blk_drewN ?_ _ | refine blk_drew ?_ | refine blk_alloc ?_ _)); refine blk_far ?_ NB357_376.out _; (with_reducible repeat (first | refine blk_drewN ?_ _ | refine blk_drew ?_ | refine blk_alloc ?_ _)); refine blk_far ?_ NB357_376.out _; (with_reducible repeat (first | refine blk_drewN ?_ _ | refine blk_drew ?_ | refine blk_alloc ?_ _)); exact BK357.out) Try.underlying25 rfl q8_) rfl ?_
          exact ⟨_, _, by first | rfl | (simp [errW_none, errW_some] <;> rfl) | (simp [*, errW_none, errW_some] <;> rfl), by first | exact Kd.S_nil _ _ _ _ _ | exact Kd.N_nil _ _ _ _ _ | exact Kd.V_nil _ _ _ _ _ | exact Kd.Q_nil _ _ _ _ _ | exact Kd.R_nil _ _ _ _ _, by first | exact Kd.R_nil _ _ _ _ _ | exact Kd.N_nil _ _ _ _ _ | exact Kd.V_nil _ _ _ _ _ | exact Kd.Q_nil _ _ _ _ _ | exact Kd.S_nil _ _ _ _ _, by repeat (first | (with_reducible first | exact HB.out | apply below_alloc | apply pw_below_drewN | apply below_drew1 | refine below_set ?_ GE357.out | refine below_set ?_ GE367.out | refine below_set ?_ GE368.out | refine below_set ?_ GE376.out) | exact HB.out)⟩
        ·rw [if_neg c31] at H
         have c31b0 : decide (x55_3 < t360) = false := decide_eq_false c31
         clear c31
         have H' := Aside0.mk H
         clear H
         obtain ⟨Ao101, co101, eo101⟩ := Kd.V_slice HO_7.out
         subst eo101
         go_wp2
         go_loopg [106] k3 (fun kq v106 w' => ∃ (x106_4 : Int) (x358000_4 : Int), v106 = .int .i64 x106_4 ∧ Aside0 (node_Read.l1 kq x7_3 (x7_3.length : Int) x106_4 t361 x369001_3 x369002_3 = some (r1, r2, r3, r4)) ∧ Aside0 (kq ≤ k3) ∧ Aside0 (Kd.V (Kd.int .u8) 5 w' w.heap.size (fun k_ => (w.heap.size ≤ k_) ∧ some k_ ≠ (u369001 : Value).ownBlock ∧ some k_ ≠ (u369002 : Value).ownBlock ∧ k_ ≠ gb357 ∧ k_ ≠ gb367 ∧ k_ ≠ gb368) (.slice Ao101 x7_3.length co101) x7_3) ∧ Aside0 (Kd.N k52 52 w' w.heap.size (fun k_ => (w.heap.size ≤ k_) ∧ some k_ ≠ (u369002 : Value).ownBlock ∧ k_ ≠ gb357 ∧ k_ ≠ gb367 ∧ k_ ≠ gb368) u369001 x369001_3) ∧ Aside0 (Kd.R k57 57 w' w.heap.size (fun k_ => (w.heap.size ≤ k_)) u369002 x369002_3) ∧ Aside0 (w'.heap[gb357]? = some (.cells #[.int .i64 x358000_4, (.slice none 0 0), (.slice none 0 0)] 25 (0, 0))) ∧ Aside0 (w'.heap[gb367]? = some (.cells #[.int .i64 t358, .int .i64 t359, .int .i64 t360, .int .i64 t361, .int .i64 t362] 62 (0, 0))) ∧ Aside0 (w'.heap[gb368]? = some (.cells #[.int .i64 t361, u369001, u369002] 25 (0, 0))) ∧ Aside0 (Below w.heap.size w w'))
         case atStart => exact ⟨(0), (x358000_3), q14_, H', ⟨Nat.le_refl _⟩, ⟨q28_⟩, ⟨q76_⟩, ⟨q61_⟩, ⟨q15_⟩, ⟨q24_⟩, ⟨q32_⟩, ⟨q7_⟩⟩
         case round =>
          clear H'
          try clear c1
          try clear c2
          try clear p2
          try clear c3
          try clear c4
          try clear c5
          try clear c6
          try clear p6
          try clear c8
          try clear c9
          try clear c10
          try clear c10b0
          try clear c12
          try clear c12b0
          try clear c12b1
          try clear c13
          try clear c13b0
          try clear c13b1
          try clear c14
          try clear c14b0
          try clear c14b1
          try clear c15
          try clear c17
          try clear c19
          try clear c21
          try clear c22
          try clear c23
          try clear c24
          try clear c27
          try clear c28
          try clear c31
          try clear c31b0
          try clear c33
          try clear c33b0
          try clear c33b1
          try clear c34
          try clear c34b0
          try clear c36
          try clear c40
          try clear c41
          try clear c42
          try clear c43
          try clear c44
          try clear c45
          try clear c46
          try clear c55
          try clear c55b0
          try clear c55b1
          try clear c57
          try clear c61
          try clear c62
          try clear c63
          try clear p64
          try clear c65
          try clear c66
          try clear c80
          try clear c81
          try clear c82
          try clear c84
          try clear c85
          try clear c86
          try clear c89
          try clear c94
          try clear c95
          try clear c96
          try clear c98
          try clear c99
          try clear hcz100_0
          try clear hcz100_1
          try clear hcz100_2
          try clear hcz16_0
          try clear hcz16_1
          try clear hcz16_2
          try clear hcz16_3
          try clear hcz16_4
          try clear hcz18_0
          try clear hcz18_1
          try clear hcz18_2
          try clear hcz18_3
          try clear hcz18_4
          try clear hcz20_0
          try clear hcz20_1
          try clear hcz20_2
          try clear hcz20_3
          try clear hcz20_4
          try clear hcz23_0
          try clear hcz23_1
          try clear hcz23_2
          try clear hcz25_0
          try clear hcz25_1
          try clear hcz25_2
          try clear hcz25_3
          try clear hcz25_4
          try clear hcz29_0
          try clear hcz29_1
          try clear hcz29_2
          try clear hcz30_0
          try clear hcz30_1
          try clear hcz30_2
          try clear hcz30_3
          try clear hcz30_4
          try clear hcz43_0
          try clear hcz43_1
          try clear hcz43_2
          try clear hcz46_0
          try clear hcz46_1
          try clear hcz46_2
          try clear hcz49_0
          try clear hcz49_1
          try clear hcz49_2
          try clear hcz50_0
          try clear hcz50_1
          try clear hcz50_2
          try clear hcz53_0
          try clear hcz53_1
          try clear hcz53_2
          try clear hcz64_0
          try clear hcz64_1
          try clear hcz64_2
          try clear hcz67_0
          try clear hcz67_1
          try clear hcz67_2
          try clear hcz70_0
          try clear hcz70_1
          try clear hcz70_2
          try clear hcz71_0
          try clear hcz71_1
          try clear hcz71_2
          try clear hcz76_0
          try clear hcz76_1
          try clear hcz76_2
          try clear hcz83_0
          try clear hcz83_1
          try clear hcz83_2
          try clear hcz86_0
          try clear hcz86_1
          try clear hcz86_2
          try clear hcz90_0
          try clear hcz90_1
          try clear hcz90_2
          try clear hcz97_0
          try clear hcz97_1
          try clear hcz97_2
          try clear hcz9_0
          try clear hcz9_1
          try clear hcz9_2
          try clear hcz9_3
          try clear hcz9_4
          try clear hfz100_0
          try clear hfz100_1
          try clear hfz100_2
          try clear hfz16_0
          try clear hfz16_1
          try clear hfz16_2
          try clear hfz16_3
          try clear hfz16_4
          try clear hfz18_0
          try clear hfz18_1
          try clear hfz18_2
          try clear hfz18_3
          try clear hfz18_4
          try clear hfz20_0
          try clear hfz20_1
          try clear hfz20_2
          try clear hfz20_3
          try clear hfz20_4
          try clear hfz23_0
          try clear hfz23_1
          try clear hfz23_2
          try clear hfz25_0
          try clear hfz25_1
          try clear hfz25_2
          try clear hfz25_3
          try clear hfz25_4
          try clear hfz29_0
          try clear hfz29_1
          try clear hfz29_2
          try clear hfz30_0
          try clear hfz30_1
          try clear hfz30_2
          try clear hfz30_3
          try clear hfz30_4
          try clear hfz43_0
          try clear hfz43_1
          try clear hfz43_2
          try clear hfz46_0
          try clear hfz46_1
          try clear hfz46_2
          try clear hfz49_0
          try clear hfz49_1
          try clear hfz49_2
          try clear hfz50_0
          try clear hfz50_1
          try clear hfz50_2
          try clear hfz53_0
          try clear hfz53_1
          try clear hfz53_2
          try clear hfz64_0
          try clear hfz64_1
          try clear hfz64_2
          try clear hfz67_0
          try clear hfz67_1
          try clear hfz67_2
          try clear hfz70_0
          try clear hfz70_1
          try clear hfz70_2
          try clear hfz71_0
          try clear hfz71_1
          try clear hfz71_2
          try clear hfz76_0
          try clear hfz76_1
          try clear hfz76_2
          try clear hfz83_0
          try clear hfz83_1
          try clear hfz83_2
          try clear hfz86_0
          try clear hfz86_1
          try clear hfz86_2
          try clear hfz90_0
          try clear hfz90_1
          try clear hfz90_2
          try clear hfz97_0
          try clear hfz97_1
          try clear hfz97_2
          try clear hfz9_0
          try clear hfz9_1
          try clear hfz9_2
          try clear hfz9_3
          try clear hfz9_4
          try clear p2
          obtain ⟨x106_4, x358000_4, rfl, HA, HK4, HO_104, HO_369001, HO_369002, BK357, BK367, BK368, HB⟩ := hrel
          cases gk with
          | zero => exact absurd (show none = some _ from HA.out) (by simp)
          | succ k4 =>
           have H := HA.out
           clear HA
           simp only [node_Read.l1] at H
           by_cases c102 : x106_4 < (x7_3.length : Int)
           ·rw [if_pos c102] at H
            have c102b0 : decide (x106_4 < (x7_3.length : Int)) = true := decide_eq_true c102
            clear c102
            by_cases c103 : 0 ≤ x106_4
            ·rw [if_pos c103] at H
             have c103b0 : decide (0 ≤ x106_4) = true := decide_eq_true c103
             clear c103
             by_cases c104 : x106_4 < (x7_3.length : Int)
             ·rw [if_pos c104] at H
              have c104b0 : decide (x106_4 < (x7_3.length : Int)) = true := decide_eq_true c104
              clear c104
              by_cases c105 : (rd x7_3 x106_4) = 0
              ·rw [if_pos c105] at H
               have c105b0 : ((rd x7_3 x106_4) == 0) = true := beq_iff_eq.mpr c105
               have c105b1 : ((rd x7_3 x106_4) != 0) = false := bne_eq_false_iff_eq.mpr c105
               clear c105
               have H' := Aside0.mk H
               clear H
               have p396 : 0 ≤ (x106_4 : Int) := of_decide_eq_true q4_
               have q396 : x106_4 < (x7_3.length : Int) := of_decide_eq_true q4_
               obtain ⟨ad396, e396, hx396_0⟩ := Kd.at_int (Kd.V_reads' HO_104.out).2.2 x106_4 p396 q396
               cases e396
               replace p396 := eq_true p396
               replace q396 := eq_true q396
               go_wp2
               go_roundg k4
               case measure => have := HJ3.out; have := HJ10.out; have := HK3.out; have := HK4.out; omega
               case rel => exact ⟨(wrap64 (x106_4 + 1)), (x358000_4), q14_, H', ⟨by have := HJ3.out; have := HJ10.out; have := HK3.out; have := HK4.out; omega⟩, ⟨by (with_reducible repeat (first | apply Kd.V_alloc | apply Kd.V_drewN | apply Kd.V_drew)); exact HO_104.out⟩, ⟨q76_⟩, ⟨q61_⟩, ⟨q15_⟩, ⟨q24_⟩, ⟨q32_⟩, ⟨q7_⟩⟩
              ·rw [if_neg c105] at H
               have c105b0 : ((rd x7_3 x106_4) == 0) = false := beq_eq_false_iff_ne.mpr c105
               have c105b1 : ((rd x7_3 x106_4) != 0) = true := bne_iff_ne.mpr c105
               simp only [Option.some.injEq, Prod.mk.injEq] at H
               obtain ⟨rfl, rfl, rfl, rfl⟩ := H
               have p396 : 0 ≤ (x106_4 : Int) := of_decide_eq_true q4_
               have q396 : x106_4 < (x7_3.length : Int) := of_decide_eq_true q4_
               obtain ⟨ad396, e396, hx396_0⟩ := Kd.at_int (Kd.V_reads' HO_104.out).2.2 x106_4 p396 q396
               cases e396
               replace p396 := eq_true p396
               replace q396 := eq_true q396
               have hnb106 := NB357_367.out
               have hnc106 := NB367_357.out
               have hnb107 := NB357_368.out
               have hnc107 := NB368_357.out
               have hcz108_0 : wr.cell? ⟨gb357, 0, none⟩ = some (.int .i64 x358000_4) := (blk_cell BK357.out 0).trans rfl
               have hcz108_1 : wr.cell? ⟨gb357, 1, none⟩ = some (.slice none 0 0) := (blk_cell BK357.out 1).trans rfl
               have hcz108_2 : wr.cell? ⟨gb357, 2, none⟩ = some (.slice none 0 0) := (blk_cell BK357.out 2).trans rfl
               have hfz108_0 := blk_frozen BK357.out 0
               have hfz108_1 := blk_frozen BK357.out 1
               have hfz108_2 := blk_frozen BK357.out 2
               go_wp2
               refine bodyPost_ret (results_ct rfl _ _ gb357 25 #[.int .i64 0, .slice none 0 0, .slice none 0 0] (0, 0) _ rfl q137_ Try.underlying25 rfl q8_) rfl ?_
               exact ⟨_, _, by first | rfl | (simp [errW_none, errW_some] <;> rfl) | (simp [*, errW_none, errW_some] <;> rfl), by first | exact Kd.S_nil _ _ _ _ _ | exact Kd.N_nil _ _ _ _ _ | exact Kd.V_nil _ _ _ _ _ | exact Kd.Q_nil _ _ _ _ _ | exact Kd.R_nil _ _ _ _ _, by first | exact Kd.R_nil _ _ _ _ _ | exact Kd.N_nil _ _ _ _ _ | exact Kd.V_nil _ _ _ _ _ | exact Kd.Q_nil _ _ _ _ _ | exact Kd.S_nil _ _ _ _ _, by repeat (first | (with_reducible first | exact HB.out | apply below_alloc | apply pw_below_drewN | apply below_drew1 | refine below_set ?_ GE357.out | refine below_set ?_ GE367.out | refine below_set ?_ GE368.out) | exact HB.out)⟩
             ·rw [if_neg c104] at H
              exact absurd H (by simp)
            ·rw [if_neg c103] at H
             exact absurd H (by simp)
           ·rw [if_neg c102] at H
            have c102b0 : decide (x106_4 < (x7_3.length : Int)) = false := decide_eq_false c102
            clear c102
            replace H := Option.bind_eq_some_iff.mp H
            obtain ⟨t397, A1090, H⟩ := H
            replace H : (if t397 = true then (some (t361, x369001_3, x369002_3, 0)) else (some (0, ([] : List (S52)), ([] : List (S57)), 3))) = some (r1, r2, r3, r4) := H
            have A109 := Aside0.mk A1090
            clear A1090
            by_cases c110 : t397 = true
            ·subst c110
             have H1 : (some (t361, x369001_3, x369002_3, 0)) = some (r1, r2, r3, r4) := by rw [if_pos rfl] at H; exact H
             clear H
             have H := H1
             clear H1
             simp only [Option.some.injEq, Prod.mk.injEq] at H
             obtain ⟨rfl, rfl, rfl, rfl⟩ := H
             have hnb111 := NB368_357.out
             have hnc111 := NB357_368.out
             have hnb112 := NB368_367.out
             have hnc112 := NB367_368.out
             have hcz113_0 : wr.cell? ⟨gb368, 0, none⟩ = some (.int .i64 t361) := (blk_cell BK368.out 0).trans rfl
             have hcz113_1 : wr.cell? ⟨gb368, 1, none⟩ = some (u369001) := (blk_cell BK368.out 1).trans rfl
             have hcz113_2 : wr.cell? ⟨gb368, 2, none⟩ = some (u369002) := (blk_cell BK368.out 2).trans rfl
             have hfz113_0 := blk_frozen BK368.out 0
             have hfz113_1 := blk_frozen BK368.out 1
             have hfz113_2 := blk_frozen BK368.out 2
             obtain ⟨Ao114, co114, eo114⟩ := Kd.N_slice HO_369001.out
             subst eo114
             obtain ⟨Ao115, co115, eo115⟩ := Kd.R_slice HO_369002.out
             subst eo115
             go_wp2_with (first | ((with_reducible refine gate_callee (f := 11) rfl ?_); refine goesL_ (some 115) rfl rfl Try.func11 q8_ rfl #[.agg #[.int .i64 t361, .slice Ao114 x369001_3.length co114, .slice Ao115 x369002_3.length co115]] rfl q1_ ?_; (with_reducible refine (node_May.calls k4 t361 _ _ x369001_3 _ _ x369002_3 true _ ?side1 ?side2 ?side3 ?side4 A109.out).mono ?_); (case side1 => repeat (first | exact (Kd.N_reads' HO_369001.out).2.2 | (with_reducible refine Kd.C_alloc ?_ _) | (with_reducible refine Kd.C_drewN ?_ _) | (with_reducible refine Kd.C_drew ?_))); (case side2 => exact (Kd.N_reads' HO_369001.out).2.1); (case side3 => repeat (first | exact (Kd.R_reads' HO_369002.out).2.2 | (with_reducible refine Kd.C_alloc ?_ _) | (with_reducible refine Kd.C_drewN ?_ _) | (with_reducible refine Kd.C_drew ?_))); (case side4 => exact (Kd.R_reads' HO_369002.out).2.1); rintro e w116 ⟨rfl, hb⟩; refine ⟨_, rfl, ?_⟩; have n0_ := Aside0.mk (Kd.V_below (by (with_reducible repeat (first | apply Kd.V_alloc | apply Kd.V_drewN | apply Kd.V_drew)); exact HO_104.out) hb); have n1_ := Aside0.mk (Kd.N_below q76_ hb); have n2_ := Aside0.mk (Kd.R_below q61_ hb); have n3_ := Aside0.mk (blk_below (g := gb357) (o := .cells #[.int .i64 x358000_4, .slice none 0 0, .slice none 0 0] 25 (0, 0)) q15_ hb); have n4_ := Aside0.mk (blk_below (g := gb367) (o := .cells #[.int .i64 t358, .int .i64 t359, .int .i64 t360, .int .i64 t361, .int .i64 t362] 62 (0, 0)) q24_ hb); have n5_ := Aside0.mk (blk_below (g := gb368) (o := .cells #[.int .i64 t361, .slice Ao114 x369001_3.length co114, .slice Ao115 x369002_3.length co115] 25 (0, 0)) q32_ hb); have n6_ := Aside0.mk (below_step q7_ hb); clear HO_104; clear HO_369001; clear HO_369002; clear BK357; clear BK367; clear BK368; clear HB; have HO_104 := n0_; have HO_369001 := n1_; have HO_369002 := n2_; have BK357 := n3_; have BK367 := n4_; have BK368 := n5_; have HB := n6_; clear n0_ n1_ n2_ n3_ n4_ n5_ n6_; (try clear hb); (try clear hb2); (try clear hk); (try clear hi); have hcz117_0 : w116.cell? ⟨gb368, 0, none⟩ = some (.int .i64 t361) := (blk_cell BK368.out 0).trans rfl; have hcz117_1 : w116.cell? ⟨gb368, 1, none⟩ = some (.slice Ao114 x369001_3.length co114) := (blk_cell BK368.out 1).trans rfl; have hcz117_2 : w116.cell? ⟨gb368, 2, none⟩ = some (.slice Ao115 x369002_3.length co115) := (blk_cell BK368.out 2).trans rfl; have hfz117_0 := blk_frozen BK368.out 0; have hfz117_1 := blk_frozen BK368.out 1; have hfz117_2 := blk_frozen BK368.out 2; have hnb118 := NB357_367.out; have hnc118 := NB367_357.out; have hcz119_0 : w116.cell? ⟨gb357, 0, none⟩ = some (.int .i64 x358000_4) := (blk_cell BK357.out 0).trans rfl; have hcz119_1 : w116.cell? ⟨gb357, 1, none⟩ = some (.slice none 0 0) := (blk_cell BK357.out 1).trans rfl; have hcz119_2 : w116.cell? ⟨gb357, 2, none⟩ = some (.slice none 0 0) := (blk_cell BK357.out 2).trans rfl; have hfz119_0 := blk_frozen BK357.out 0; have hfz119_1 := blk_frozen BK357.out 1; have hfz119_2 := blk_frozen BK357.out 2))
             refine bodyPost_ret (results_ct rfl _ _ gb357 25 #[.int .i64 t361, .slice Ao114 x369001_3.length co114, .slice Ao115 x369002_3.length co115] (0, 0) _ rfl (by (with_reducible repeat (first | refine blk_drewN ?_ _ | refine blk_drew ?_ | refine blk_alloc ?_ _)); refine blk_put (cs := #[.int .i64 t361, .slice Ao114 x369001_3.length co114, .slice none 0 0]) ?_ 2 _ rfl; (with_reducible repeat (first | refine blk_drewN ?_ _ | refine blk_drew ?_ | refine blk_alloc ?_ _)); refine blk_put (cs := #[.int .i64 t361, .slice none 0 0, .slice none 0 0]) ?_ 1 _ rfl; (with_reducible repeat (first | refine blk_drewN ?_ _ | refine blk_drew ?_ | refine blk_alloc ?_ _)); refine blk_put (cs := #[.int .i64 x358000_4, .slice none 0 0, .slice none 0 0]) ?_ 0 _ rfl; (with_reducible repeat (first | refine blk_drewN ?_ _ | refine blk_drew ?_ | refine blk_alloc ?_ _)); exact BK357.out) Try.underlying25 rfl q8_) rfl ?_
             exact ⟨_, _, by first | rfl | (simp [errW_none, errW_some] <;> rfl) | (simp [*, errW_none, errW_some] <;> rfl), by (with_reducible repeat (first | apply Kd.N_alloc | apply Kd.N_drewN | apply Kd.N_drew)); exact Kd.N_mono (Kd.N_far (p := ⟨gb357, 2, none⟩) (Kd.N_far (p := ⟨gb357, 1, none⟩) (Kd.N_far (p := ⟨gb357, 0, none⟩) (Kd.N_mono HO_369001.out (fun k_ hk => (⟨hk, hk.2.2.1⟩ : _ ∧ k_ ≠ gb357))) (fun _ hk => hk.2) (.int .i64 t361)) (fun _ hk => hk.2) (.slice Ao114 x369001_3.length co114)) (fun _ hk => hk.2) (.slice Ao115 x369002_3.length co115)) (fun _ hk => ⟨hk.1.1, hk.1.2.1⟩), by (with_reducible repeat (first | apply Kd.R_alloc | apply Kd.R_drewN | apply Kd.R_drew)); exact Kd.R_mono (Kd.R_far (p := ⟨gb357, 2, none⟩) (Kd.R_far (p := ⟨gb357, 1, none⟩) (Kd.R_far (p := ⟨gb357, 0, none⟩) (Kd.R_types HO_369002.out BK357.out q210_) (fun _ hk => hk.2) (.int .i64 t361)) (fun _ hk => hk.2) (.slice Ao114 x369001_3.length co114)) (fun _ hk => hk.2) (.slice Ao115 x369002_3.length co115)) (fun _ hk => hk.1), by repeat (first | (with_reducible first | exact HB.out | apply below_alloc | apply pw_below_drewN | apply below_drew1 | refine below_set ?_ GE357.out | refine below_set ?_ GE367.out | refine below_set ?_ GE368.out) | exact HB.out)⟩
            ·replace c110 := Bool.eq_false_iff.mpr c110
             subst c110
             have H1 : (some (0, ([] : List (S52)), ([] : List (S57)), 3)) = some (r1, r2, r3, r4) := by rw [if_neg (show ¬ (false = true) by decide)] at H; exact H
             clear H
             have H := H1
             clear H1
             simp only [Option.some.injEq, Prod.mk.injEq] at H
             obtain ⟨rfl, rfl, rfl, rfl⟩ := H
             have hnb120 := NB368_357.out
             have hnc120 := NB357_368.out
             have hnb121 := NB368_367.out
             have hnc121 := NB367_368.out
             have hcz122_0 : wr.cell? ⟨gb368, 0, none⟩ = some (.int .i64 t361) := (blk_cell BK368.out 0).trans rfl
             have hcz122_1 : wr.cell? ⟨gb368, 1, none⟩ = some (u369001) := (blk_cell BK368.out 1).trans rfl
             have hcz122_2 : wr.cell? ⟨gb368, 2, none⟩ = some (u369002) := (blk_cell BK368.out 2).trans rfl
             have hfz122_0 := blk_frozen BK368.out 0
             have hfz122_1 := blk_frozen BK368.out 1
             have hfz122_2 := blk_frozen BK368.out 2
             obtain ⟨Ao123, co123, eo123⟩ := Kd.N_slice HO_369001.out
             subst eo123
             obtain ⟨Ao124, co124, eo124⟩ := Kd.R_slice HO_369002.out
             subst eo124
             go_wp2_with (first | ((with_reducible refine gate_callee (f := 11) rfl ?_); refine goesL_ (some 115) rfl rfl Try.func11 q8_ rfl #[.agg #[.int .i64 t361, .slice Ao123 x369001_3.length co123, .slice Ao124 x369002_3.length co124]] rfl q1_ ?_; (with_reducible refine (node_May.calls k4 t361 _ _ x369001_3 _ _ x369002_3 false _ ?side1 ?side2 ?side3 ?side4 A109.out).mono ?_); (case side1 => repeat (first | exact (Kd.N_reads' HO_369001.out).2.2 | (with_reducible refine Kd.C_alloc ?_ _) | (with_reducible refine Kd.C_drewN ?_ _) | (with_reducible refine Kd.C_drew ?_))); (case side2 => exact (Kd.N_reads' HO_369001.out).2.1); (case side3 => repeat (first | exact (Kd.R_reads' HO_369002.out).2.2 | (with_reducible refine Kd.C_alloc ?_ _) | (with_reducible refine Kd.C_drewN ?_ _) | (with_reducible refine Kd.C_drew ?_))); (case side4 => exact (Kd.R_reads' HO_369002.out).2.1); rintro e w125 ⟨rfl, hb⟩; refine ⟨_, rfl, ?_⟩; have n0_ := Aside0.mk (Kd.V_below (by (with_reducible repeat (first | apply Kd.V_alloc | apply Kd.V_drewN | apply Kd.V_drew)); exact HO_104.out) hb); have n1_ := Aside0.mk (Kd.N_below q76_ hb); have n2_ := Aside0.mk (Kd.R_below q61_ hb); have n3_ := Aside0.mk (blk_below (g := gb357) (o := .cells #[.int .i64 x358000_4, .slice none 0 0, .slice none 0 0] 25 (0, 0)) q15_ hb); have n4_ := Aside0.mk (blk_below (g := gb367) (o := .cells #[.int .i64 t358, .int .i64 t359, .int .i64 t360, .int .i64 t361, .int .i64 t362] 62 (0, 0)) q24_ hb); have n5_ := Aside0.mk (blk_below (g := gb368) (o := .cells #[.int .i64 t361, .slice Ao123 x369001_3.length co123, .slice Ao124 x369002_3.length co124] 25 (0, 0)) q32_ hb); have n6_ := Aside0.mk (below_step q7_ hb); clear HO_104; clear HO_369001; clear HO_369002; clear BK357; clear BK367; clear BK368; clear HB; have HO_104 := n0_; have HO_369001 := n1_; have HO_369002 := n2_; have BK357 := n3_; have BK367 := n4_; have BK368 := n5_; have HB := n6_; clear n0_ n1_ n2_ n3_ n4_ n5_ n6_; (try clear hb); (try clear hb2); (try clear hk); (try clear hi); have hnb126 := NB357_367.out; have hnc126 := NB367_357.out; have hcz127_0 : w125.cell? ⟨gb357, 0, none⟩ = some (.int .i64 x358000_4) := (blk_cell BK357.out 0).trans rfl; have hcz127_1 : w125.cell? ⟨gb357, 1, none⟩ = some (.slice none 0 0) := (blk_cell BK357.out 1).trans rfl; have hcz127_2 : w125.cell? ⟨gb357, 2, none⟩ = some (.slice none 0 0) := (blk_cell BK357.out 2).trans rfl; have hfz127_0 := blk_frozen BK357.out 0; have hfz127_1 := blk_frozen BK357.out 1; have hfz127_2 := blk_frozen BK357.out 2))
             refine bodyPost_ret (results_ct rfl _ _ gb357 25 #[.int .i64 0, .slice none 0 0, .slice none 0 0] (0, 0) _ rfl q137_ Try.underlying25 rfl q8_) rfl ?_
             exact ⟨_, _, by first | rfl | (simp [errW_none, errW_some] <;> rfl) | (simp [*, errW_none, errW_some] <;> rfl), by first | exact Kd.S_nil _ _ _ _ _ | exact Kd.N_nil _ _ _ _ _ | exact Kd.V_nil _ _ _ _ _ | exact Kd.Q_nil _ _ _ _ _ | exact Kd.R_nil _ _ _ _ _, by first | exact Kd.R_nil _ _ _ _ _ | exact Kd.N_nil _ _ _ _ _ | exact Kd.V_nil _ _ _ _ _ | exact Kd.Q_nil _ _ _ _ _ | exact Kd.S_nil _ _ _ _ _, by repeat (first | (with_reducible first | exact HB.out | apply below_alloc | apply pw_below_drewN | apply below_drew1 | refine below_set ?_ GE357.out | refine below_set ?_ GE367.out | refine below_set ?_ GE368.out) | exact HB.out)⟩

end Go.Proofs.Ytcjnknpbikfimaa.P
