import Derived.Test.YtgklipfeheohkaaDoorPx0
import Derived.Test.YtgklipfeheohkaaDoorPx1
import Derived.Test.YtgklipfeheohkaaDoorPx9
namespace Go.Proofs.YtgklipfeheohkaaDoor.P
open Go.RowKit Go.Proofs.YtgklipfeheohkaaDoorW.PrintWords Go.Proofs.YtgklipfeheohkaaDoorW.PrintLast Go.Proofs.YtgklipfeheohkaaDoorW.PrintMore
attribute [local go_sem] max2_int min2_int max_two min_two max_three min_three max_four min_four   -- for this text's walks alone
set_option linter.unusedVariables false
set_option linter.unusedSimpArgs false
theorem q8_ {P : Prop} (h : P := by repeat (first | (with_reducible first | exact HB.out | apply below_alloc | apply pw_below_drewN | apply below_drew1 | refine below_set ?_ GE333.out | refine below_set ?_ GE335.out) | exact HB.out)) : P := h
theorem q17_ {P : Prop} (h : P := by (with_reducible repeat (first | refine blk_drewN ?_ _ | refine blk_drew ?_ | refine blk_alloc ?_ _)); refine blk_far ?_ NB333_335.out _; (with_reducible repeat (first | refine blk_drewN ?_ _ | refine blk_drew ?_ | refine blk_alloc ?_ _)); exact BK333.out) : P := h
theorem q21_ {P : Prop} (h : P := by (with_reducible repeat (first | refine blk_drewN ?_ _ | refine blk_drew ?_ | refine blk_alloc ?_ _)); refine blk_put (cs := #[.int .i64 (wrap64 (rd l0 0)), .string t337, .string x336002_4, .int .i64 x336003_4, .slice none 0 0]) ?_ 4 _ rfl; (with_reducible repeat (first | refine blk_drewN ?_ _ | refine blk_drew ?_ | refine blk_alloc ?_ _)); refine blk_put (cs := #[.int .i64 (wrap64 (rd l0 0)), .string t337, .string x336002_4, .int .i64 x334003_4, .slice none 0 0]) ?_ 3 _ rfl; (with_reducible repeat (first | refine blk_drewN ?_ _ | refine blk_drew ?_ | refine blk_alloc ?_ _)); refine blk_put (cs := #[.int .i64 (wrap64 (rd l0 0)), .string t337, .string x334002_4, .int .i64 x334003_4, .slice none 0 0]) ?_ 2 _ rfl; (with_reducible repeat (first | refine blk_drewN ?_ _ | refine blk_drew ?_ | refine blk_alloc ?_ _)); refine blk_put (cs := #[.int .i64 (wrap64 (rd l0 0)), .string x334001_4, .string x334002_4, .int .i64 x334003_4, .slice none 0 0]) ?_ 1 _ rfl; (with_reducible repeat (first | refine blk_drewN ?_ _ | refine blk_drew ?_ | refine blk_alloc ?_ _)); refine blk_put (cs := #[.int .i64 x334000_4, .string x334001_4, .string x334002_4, .int .i64 x334003_4, .slice none 0 0]) ?_ 0 _ rfl; (with_reducible repeat (first | refine blk_drewN ?_ _ | refine blk_drew ?_ | refine blk_alloc ?_ _)); exact BK333.out) : P := h
theorem q26_ {P : Prop} (h : P := by (with_reducible repeat (first | apply Kd.V_alloc | apply Kd.V_drewN | apply Kd.V_drew)); exact (Kd.V_mono (Kd.V_far (p := ⟨gb335, 1, none⟩) (Kd.V_mono HO340.out (fun k_ hk => (⟨hk, hk.2.2⟩ : _ ∧ k_ ≠ gb335))) (fun _ hk => hk.2) (.string t337)) (fun _ h_ => h_.1))) : P := h
theorem q27_ {P : Prop} (h : P := by (with_reducible repeat (first | refine blk_drewN ?_ _ | refine blk_drew ?_ | refine blk_alloc ?_ _)); refine blk_put (cs := #[.int .i64 (wrap64 (rd l0 0)), .string (⟨#[]⟩ : ByteArray), .string (⟨#[]⟩ : ByteArray), .int .i64 0, .slice none 0 0]) ?_ 1 _ rfl; (with_reducible repeat (first | refine blk_drewN ?_ _ | refine blk_drew ?_ | refine blk_alloc ?_ _)); exact BK335.out) : P := h
theorem q35_ {P : Prop} (h : P := by (with_reducible repeat (first | refine blk_drewN ?_ _ | refine blk_drew ?_ | refine blk_alloc ?_ _)); refine blk_put (cs := #[.int .i64 (wrap64 (rd l0 0)), .string (⟨#[]⟩ : ByteArray), .string (⟨#[]⟩ : ByteArray), .int .i64 0, .slice none 0 0]) ?_ 4 _ rfl; (with_reducible repeat (first | refine blk_drewN ?_ _ | refine blk_drew ?_ | refine blk_alloc ?_ _)); refine blk_put (cs := #[.int .i64 (wrap64 (rd l0 0)), .string (⟨#[]⟩ : ByteArray), .string (⟨#[]⟩ : ByteArray), .int .i64 0, .slice none 0 0]) ?_ 3 _ rfl; (with_reducible repeat (first | refine blk_drewN ?_ _ | refine blk_drew ?_ | refine blk_alloc ?_ _)); refine blk_put (cs := #[.int .i64 (wrap64 (rd l0 0)), .string (⟨#[]⟩ : ByteArray), .string (⟨#[]⟩ : ByteArray), .int .i64 0, .slice none 0 0]) ?_ 2 _ rfl; (with_reducible repeat (first | refine blk_drewN ?_ _ | refine blk_drew ?_ | refine blk_alloc ?_ _)); refine blk_put (cs := #[.int .i64 (wrap64 (rd l0 0)), .string (⟨#[]⟩ : ByteArray), .string (⟨#[]⟩ : ByteArray), .int .i64 0, .slice none 0 0]) ?_ 1 _ rfl; (with_reducible repeat (first | refine blk_drewN ?_ _ | refine blk_drew ?_ | refine blk_alloc ?_ _)); refine blk_put (cs := #[.int .i64 0, .string (⟨#[]⟩ : ByteArray), .string (⟨#[]⟩ : ByteArray), .int .i64 0, .slice none 0 0]) ?_ 0 _ rfl; (with_reducible repeat (first | refine blk_drewN ?_ _ | refine blk_drew ?_ | refine blk_alloc ?_ _)); exact BK335.out) : P := h
theorem q43_ {P : Prop} (h : P := by (with_reducible repeat (first | refine blk_drewN ?_ _ | refine blk_drew ?_ | refine blk_alloc ?_ _)); refine blk_put (cs := #[.int .i64 (wrap64 (rd l0 0)), .string t337, .string (⟨#[]⟩ : ByteArray), .int .i64 0, .slice none 0 0]) ?_ 3 _ rfl; (with_reducible repeat (first | refine blk_drewN ?_ _ | refine blk_drew ?_ | refine blk_alloc ?_ _)); exact BK335.out) : P := h
theorem q47_ {P : Prop} (h : P := by (with_reducible repeat (first | refine blk_drewN ?_ _ | refine blk_drew ?_ | refine blk_alloc ?_ _)); refine blk_far ?_ NB333_335.out _; (with_reducible repeat (first | refine blk_drewN ?_ _ | refine blk_drew ?_ | refine blk_alloc ?_ _)); refine blk_far ?_ NB333_335.out _; (with_reducible repeat (first | refine blk_drewN ?_ _ | refine blk_drew ?_ | refine blk_alloc ?_ _)); refine blk_far ?_ NB333_335.out _; (with_reducible repeat (first | refine blk_drewN ?_ _ | refine blk_drew ?_ | refine blk_alloc ?_ _)); refine blk_far ?_ NB333_335.out _; (with_reducible repeat (first | refine blk_drewN ?_ _ | refine blk_drew ?_ | refine blk_alloc ?_ _)); refine blk_far ?_ NB333_335.out _; (with_reducible repeat (first | refine blk_drewN ?_ _ | refine blk_drew ?_ | refine blk_alloc ?_ _)); exact BK333.out) : P := h
theorem q50_ {P : Prop} (h : P := by (with_reducible repeat (first | apply Kd.R_alloc | apply Kd.R_drewN | apply Kd.R_drew)); exact (Kd.R_mono (Kd.R_far (p := ⟨gb335, 3, none⟩) (Kd.R_types HO356.out BK335.out (by decide)) (fun _ hk => hk.2) (.int .i64 t352)) (fun _ h_ => h_.1))) : P := h
theorem q72_ {P : Prop} (h : P := by first | exact Kd.R_nil _ _ _ _ _ | exact Kd.N_nil _ _ _ _ _ | exact Kd.V_nil _ _ _ _ _ | exact Kd.Q_nil _ _ _ _ _ | exact Kd.S_nil _ _ _ _ _) : P := h
def stream_record.j0 : Nat → List Int → Int → Int → Int → ByteArray → ByteArray → Int → List Int → Option (Int × ByteArray × ByteArray × Int × List Int × List Int × Bool)
 | 0, _, _, _, _, _, _, _, _ => none
 | k + 1, x0, x7, x8, x336000, x336001, x336002, x336003, x336004 => if x7 = 0 then (if x8 = 0 then ((stream_Good.f k x336000 x336001 x336002 x336003 x336004).bind fun t364 => (some (x336000, x336001, x336002, x336003, x336004, x0, t364))) else (some (x336000, x336001, x336002, x336003, x336004, x0, false))) else (some (x336000, x336001, x336002, x336003, x336004, x0, false))
def stream_record.f (k : Nat) (l0 : List Int) : Option (Int × ByteArray × ByteArray × Int × List Int × List Int × Bool) := if 0 < (l0.length : Int) then (if 1 ≤ (l0.length : Int) then ((num_TakeText.f (l0.drop 1)).bind fun bt337 => (if bt337.2.2 = 0 then (if (wrap64 (rd l0 0)) = 3 then ((num_TakeText.f bt337.2.1).bind fun bt342 => (stream_record.j0 k bt342.2.1 bt342.2.2 0 (wrap64 (rd l0 0)) bt337.1 bt342.1 0 ([] : List Int))) else (if (wrap64 (rd l0 0)) = 5 then ((num_Take.f bt337.2.1 4).bind fun bt347 => (stream_record.j0 k bt347.2.1 bt347.2.2 0 (wrap64 (rd l0 0)) bt337.1 (⟨#[]⟩ : ByteArray) bt347.1 ([] : List Int))) else (if (wrap64 (rd l0 0)) = 4 then ((num_Take.f bt337.2.1 4).bind fun bt352 => (if bt352.2.2 = 0 then ((num_TakeBytes.f bt352.2.1).bind fun bt357 => (stream_record.j0 k bt357.2.1 bt352.2.2 bt357.2.2 (wrap64 (rd l0 0)) bt337.1 (⟨#[]⟩ : ByteArray) bt352.1 bt357.1)) else (stream_record.j0 k bt352.2.1 bt352.2.2 0 (wrap64 (rd l0 0)) bt337.1 (⟨#[]⟩ : ByteArray) bt352.1 ([] : List Int)))) else (stream_record.j0 k bt337.2.1 0 0 (wrap64 (rd l0 0)) bt337.1 (⟨#[]⟩ : ByteArray) 0 ([] : List Int))))) else (some (wrap64 (rd l0 0), bt337.1, (⟨#[]⟩ : ByteArray), 0, ([] : List Int), ([] : List Int), false)))) else (none)) else (none)
def stream_record.T14 : Bool × List (List Nat × List Nat) := (true, [([], []), ([], []), ([], []), ([2], [2]), ([3], [3]), ([4], [4]), ([5, 4], [4, 5]), ([4, 6], [4, 6]), ([7, 4], [7]), ([8], [8]), ([9, 8, 8], [8, 9]), ([8, 10], [8, 10]), ([0, 10, 0], [0]), ([1, 12, 0, 1, 12], [1]), ([11, 13, 0, 1, 2, 3, 4, 5, 6, 7, 8, 9, 10, 11, 12, 13], [11])])
def stream_record.B14 : List Nat := [0, 0, 0, 4, 12, 28, 60, 124, 252, 508, 1020, 2044, 2045, 6143, 16383]
theorem stream_record.tab14 : rtab .any (opsOf Tryd.f38 14) = stream_record.T14 := by kernel_rfl
theorem stream_record.bits14 : waitsOk stream_record.T14.2 stream_record.B14 = true := by kernel_rfl
set_option maxHeartbeats 8000000 in
set_option maxRecDepth 100000 in
theorem stream_record.calls (k : Nat) (A0 : Option Addr) (c0 : Nat) (l0 : List Int) (r1 : Int) (r2 : ByteArray) (r3 : ByteArray) (r4 : Int) (r5 : List Int) (r6 : List Int) (r7 : Bool) (w : World) (hr0 : Kd.C (Kd.int .u8) w A0 l0.length l0) (hc0 : l0.length ≤ c0) (h : stream_record.f k l0 = some (r1, r2, r3, r4, r5, r6, r7)) :
  Calls Tryd.prog 38 #[.slice A0 l0.length c0] w fun e w' => ∃ v4_ v5_ : Value, e = .returned (.tuple #[.agg #[.int .i64 r1, .string r2, .string r3, .int .i64 r4, v4_], v5_, .bool r7]) ∧ Kd.R (Kd.int .u8) 5 w' w.heap.size (fun k_ => (w.heap.size ≤ k_)) v4_ r5 ∧ Kd.V (Kd.int .u8) 5 w' w.heap.size (fun k_ => (w.heap.size ≤ k_) ∧ some k_ ≠ (v4_ : Value).ownBlock) v5_ r6 ∧ Below w.heap.size w w' := by
 have hu37 := Tryd.underlying37
 have HR0 := Aside0.mk hr0
 have HC0 := Aside0.mk hc0
 clear hr0 hc0
 have HB := Aside0.mk (Below.refl w.heap.size w)
 have H : (if 0 < (l0.length : Int) then (if 1 ≤ (l0.length : Int) then ((num_TakeText.f (l0.drop 1)).bind fun bt337 => (if bt337.2.2 = 0 then (if (wrap64 (rd l0 0)) = 3 then ((num_TakeText.f bt337.2.1).bind fun bt342 => (stream_record.j0 k bt342.2.1 bt342.2.2 0 (wrap64 (rd l0 0)) bt337.1 bt342.1 0 ([] : List Int))) else (if (wrap64 (rd l0 0)) = 5 then ((num_Take.f bt337.2.1 4).bind fun bt347 => (stream_record.j0 k bt347.2.1 bt347.2.2 0 (wrap64 (rd l0 0)) bt337.1 (⟨#[]⟩ : ByteArray) bt347.1 ([] : List Int))) else (if (wrap64 (rd l0 0)) = 4 then ((num_Take.f bt337.2.1 4).bind fun bt352 => (if bt352.2.2 = 0 then ((num_TakeBytes.f bt352.2.1).bind fun bt357 => (stream_record.j0 k bt357.2.1 bt352.2.2 bt357.2.2 (wrap64 (rd l0 0)) bt337.1 (⟨#[]⟩ : ByteArray) bt352.1 bt357.1)) else (stream_record.j0 k bt352.2.1 bt352.2.2 0 (wrap64 (rd l0 0)) bt337.1 (⟨#[]⟩ : ByteArray) bt352.1 ([] : List Int)))) else (stream_record.j0 k bt337.2.1 0 0 (wrap64 (rd l0 0)) bt337.1 (⟨#[]⟩ : ByteArray) 0 ([] : List Int))))) else (some (wrap64 (rd l0 0), bt337.1, (⟨#[]⟩ : ByteArray), 0, ([] : List Int), ([] : List Int), false)))) else (none)) else (none)) = some (r1, r2, r3, r4, r5, r6, r7) := h
 clear h
 by_cases c2 : 0 < (l0.length : Int)
 ·rw [if_pos c2] at H
  have c2b0 : decide (0 < (l0.length : Int)) = true := decide_eq_true c2
  have c2b1 : decide (0 < l0.length) = true := decide_eq_true (by omega)
  clear c2
  by_cases c3 : 1 ≤ (l0.length : Int)
  ·rw [if_pos c3] at H
   have c3b0 := eq_true c3
   have c3b1 : decide (1 ≤ (l0.length : Int)) = true := decide_eq_true c3
   clear c3
   replace H := Option.bind_eq_some_iff.mp H
   obtain ⟨⟨t337, t338, t341⟩, A40, H⟩ := H
   replace H : (if t341 = 0 then (if (wrap64 (rd l0 0)) = 3 then ((num_TakeText.f t338).bind fun bt342 => (stream_record.j0 k bt342.2.1 bt342.2.2 0 (wrap64 (rd l0 0)) t337 bt342.1 0 ([] : List Int))) else (if (wrap64 (rd l0 0)) = 5 then ((num_Take.f t338 4).bind fun bt347 => (stream_record.j0 k bt347.2.1 bt347.2.2 0 (wrap64 (rd l0 0)) t337 (⟨#[]⟩ : ByteArray) bt347.1 ([] : List Int))) else (if (wrap64 (rd l0 0)) = 4 then ((num_Take.f t338 4).bind fun bt352 => (if bt352.2.2 = 0 then ((num_TakeBytes.f bt352.2.1).bind fun bt357 => (stream_record.j0 k bt357.2.1 bt352.2.2 bt357.2.2 (wrap64 (rd l0 0)) t337 (⟨#[]⟩ : ByteArray) bt352.1 bt357.1)) else (stream_record.j0 k bt352.2.1 bt352.2.2 0 (wrap64 (rd l0 0)) t337 (⟨#[]⟩ : ByteArray) bt352.1 ([] : List Int)))) else (stream_record.j0 k t338 0 0 (wrap64 (rd l0 0)) t337 (⟨#[]⟩ : ByteArray) 0 ([] : List Int))))) else (some (wrap64 (rd l0 0), t337, (⟨#[]⟩ : ByteArray), 0, ([] : List Int), ([] : List Int), false))) = some (r1, r2, r3, r4, r5, r6, r7) := H
   have A4 := Aside0.mk A40
   clear A40
   have HC5 := Aside0.mk H
   clear H
   go_enter Tryd.func38, Tryd.ntmps38
   go_upto_block 0 with (first | ((with_reducible refine gate_dst (N := 2) rfl ?_); refine box_event ?hg (N := 2) ?hd (cs := #[.int .i64 0, .string (⟨#[]⟩ : ByteArray), .string (⟨#[]⟩ : ByteArray), .int .i64 0, .slice none 0 0]) (t := 37) ?hr ?_; (case hd => rfl); (case hg => rfl); (case hr => first | (go_simp; done) | (go_simp; rfl)); intro gb333 hg w6 hbox hb; have n0_ := Aside0.mk (below_step q0_ hb); have n1_ := Aside0.mk (hbox); have n2_ := Aside0.mk ((by rw [hg]; exact (below_size q0_) : w.heap.size ≤ gb333)); have n3_ := Aside0.mk ((by rw [hg]; exact (below_size q0_) : w.heap.size ≤ gb333)); clear HB; have HB := n0_; have BK333 := n1_; have GW333 := n2_; have GE333 := n3_; clear n0_ n1_ n2_ n3_; clear hb hbox hg; have p334 : 0 ≤ (0 : Int) := (by omega); have q334 : 0 < (l0.length : Int) := of_decide_eq_true q7_; obtain ⟨ad334, e334, hx334_0⟩ := Kd.at_int HR0.out 0 p334 q334; cases e334; have qi334 : (0 < l0.length) = True := eq_true (by omega); (try rw [show ((0 : Int)).toNat = 0 from rfl] at hx334_0); (try rw [Addr.add_zero'] at hx334_0); replace hx334_0 := (HB.out.cell (World.block_lt_of_cell? w _ hx334_0)).trans hx334_0; replace p334 := eq_true p334; replace q334 := eq_true q334) | ((with_reducible refine gate_dst (N := 5) rfl ?_); refine box_event ?hg (N := 5) ?hd (cs := #[.int .i64 0, .string (⟨#[]⟩ : ByteArray), .string (⟨#[]⟩ : ByteArray), .int .i64 0, .slice none 0 0]) (t := 37) ?hr ?_; (case hd => rfl); (case hg => rfl); (case hr => first | (go_simp; done) | (go_simp; rfl)); intro gb335 hg w7 hbox hb; have n0_ := Aside0.mk (blk_below (g := gb333) (o := .cells #[.int .i64 0, .string (⟨#[]⟩ : ByteArray), .string (⟨#[]⟩ : ByteArray), .int .i64 0, .slice none 0 0] 37 (0, 0)) (by (with_reducible repeat (first | refine blk_drewN ?_ _ | refine blk_drew ?_ | refine blk_alloc ?_ _)); exact BK333.out) hb); have n1_ := Aside0.mk (below_step (by repeat (first | (with_reducible first | exact HB.out | apply below_alloc | apply pw_below_drewN | apply below_drew1 | refine below_set ?_ GE333.out) | exact HB.out)) hb); have n2_ := Aside0.mk (hbox); have n3_ := Aside0.mk ((by rw [hg]; exact (below_size (by repeat (first | (with_reducible first | exact HB.out | apply below_alloc | apply pw_below_drewN | apply below_drew1 | refine below_set ?_ GE333.out) | exact HB.out))) : w.heap.size ≤ gb335)); have n4_ := Aside0.mk ((by rw [hg]; exact (below_size (by repeat (first | (with_reducible first | exact HB.out | apply below_alloc | apply pw_below_drewN | apply below_drew1 | refine below_set ?_ GE333.out) | exact HB.out))) : w.heap.size ≤ gb335)); have n5_ := Aside0.mk ((by rw [hg]; exact Nat.ne_of_lt (blk_lt (g := gb333) (o := .cells #[.int .i64 0, .string (⟨#[]⟩ : ByteArray), .string (⟨#[]⟩ : ByteArray), .int .i64 0, .slice none 0 0] 37 (0, 0)) (by (with_reducible repeat (first | refine blk_drewN ?_ _ | refine blk_drew ?_ | refine blk_alloc ?_ _)); exact BK333.out)) : gb333 ≠ gb335)); have n6_ := Aside0.mk ((by rw [hg]; exact Nat.ne_of_gt (blk_lt (g := gb333) (o := .cells #[.int .i64 0, .string (⟨#[]⟩ : ByteArray), .string (⟨#[]⟩ : ByteArray), .int .i64 0, .slice none 0 0] 37 (0, 0)) (by (with_reducible repeat (first | refine blk_drewN ?_ _ | refine blk_drew ?_ | refine blk_alloc ?_ _)); exact BK333.out)) : gb335 ≠ gb333)); clear BK333; clear HB; have BK333 := n0_; have HB := n1_; have BK335 := n2_; have GW335 := n3_; have GE335 := n4_; have NB333_335 := n5_; have NB335_333 := n6_; clear n0_ n1_ n2_ n3_ n4_ n5_ n6_; clear hb hbox hg; have hnb8 := NB335_333.out; have hnc8 := NB333_335.out; have hcz9_0 : w7.cell? ⟨gb335, 0, none⟩ = some (.int .i64 0) := (blk_cell BK335.out 0).trans rfl; have hcz9_1 : w7.cell? ⟨gb335, 1, none⟩ = some (.string (⟨#[]⟩ : ByteArray)) := (blk_cell BK335.out 1).trans rfl; have hcz9_2 : w7.cell? ⟨gb335, 2, none⟩ = some (.string (⟨#[]⟩ : ByteArray)) := (blk_cell BK335.out 2).trans rfl; have hcz9_3 : w7.cell? ⟨gb335, 3, none⟩ = some (.int .i64 0) := (blk_cell BK335.out 3).trans rfl; have hcz9_4 : w7.cell? ⟨gb335, 4, none⟩ = some (.slice none 0 0) := (blk_cell BK335.out 4).trans rfl; have hfz9_0 := blk_frozen BK335.out 0; have hfz9_1 := blk_frozen BK335.out 1; have hfz9_2 := blk_frozen BK335.out 2; have hfz9_3 := blk_frozen BK335.out 3; have hfz9_4 := blk_frozen BK335.out 4; obtain ⟨i010, hi010, _, hsz10, _⟩ := info_parts info5; obtain ⟨A10, hcut10, hA10, hC10⟩ := print_drop_of (P := Tryd.prog) (Value.int .u8) 0 35 5 .i64 Tryd.underlying35 hi010 hsz10 (some ad334) c0 l0 1 (by omega) (of_decide_eq_true q7_) HC0.out; have HR336 := Aside0.mk (Kd.C_of_reads (h1 := fun _ => rfl) (hA10 _ (Kd.reads_of_C HR0.out))); have HC336 := Aside0.mk hC10; clear hA10 hC10 hi010 hsz10) | ((with_reducible refine gate_callee (f := 51) rfl ?_); refine goesL_ (some 17) rfl rfl Tryd.func51 q18_ rfl #[.slice A10 (l0.drop 1).length (c0 - 1)] rfl (by (try simp only [List.map_toArray, List.map_cons, List.map_nil]); first | done | (rw [show (l0.drop 1).length = (l0.length - 1) from List.length_drop] <;> rfl) | rfl | (simp only [List.length_drop, List.length_take]; rfl)) ?_; (with_reducible refine (num_TakeText.calls _ _ (l0.drop 1) t337 t338 t341 _ ?side1 ?side2 A4.out).mono ?_); (case side1 => exact Kd.C_below HR336.out q8_); (case side2 => exact HC336.out); rintro e w11 ⟨v339, rfl, ho0, hb⟩; refine ⟨_, rfl, ?_⟩; have n0_ := Aside0.mk (Kd.V_lower (Kd.V_mono (ok' := fun k_ => (w.heap.size ≤ k_) ∧ k_ ≠ gb333 ∧ k_ ≠ gb335) ho0 (fun k_ hk_ => ⟨(Nat.le_trans (below_size q8_) hk_), (Kd.freshB (g := gb333) (o := .cells #[.int .i64 0, .string (⟨#[]⟩ : ByteArray), .string (⟨#[]⟩ : ByteArray), .int .i64 0, .slice none 0 0] 37 (0, 0)) q47_ k_ hk_), (Kd.freshB (g := gb335) (o := .cells #[.int .i64 (wrap64 (rd l0 0)), .string (⟨#[]⟩ : ByteArray), .string (⟨#[]⟩ : ByteArray), .int .i64 0, .slice none 0 0] 37 (0, 0)) q35_ k_ hk_)⟩)) (below_size q8_)); have n1_ := Aside0.mk (blk_below (g := gb333) (o := .cells #[.int .i64 0, .string (⟨#[]⟩ : ByteArray), .string (⟨#[]⟩ : ByteArray), .int .i64 0, .slice none 0 0] 37 (0, 0)) q47_ hb); have n2_ := Aside0.mk (blk_below (g := gb335) (o := .cells #[.int .i64 (wrap64 (rd l0 0)), .string (⟨#[]⟩ : ByteArray), .string (⟨#[]⟩ : ByteArray), .int .i64 0, .slice none 0 0] 37 (0, 0)) q35_ hb); have n3_ := Aside0.mk (below_step q8_ hb); clear BK333; clear BK335; clear HB; have HO340 := n0_; have BK333 := n1_; have BK335 := n2_; have HB := n3_; clear n0_ n1_ n2_ n3_; (try clear hb); (try clear hb2); (try clear hk); (try clear hi); (try clear ho0); have hcz12_0 : w11.cell? ⟨gb335, 0, none⟩ = some (.int .i64 (wrap64 (rd l0 0))) := (blk_cell BK335.out 0).trans rfl; have hcz12_1 : w11.cell? ⟨gb335, 1, none⟩ = some (.string (⟨#[]⟩ : ByteArray)) := (blk_cell BK335.out 1).trans rfl; have hcz12_2 : w11.cell? ⟨gb335, 2, none⟩ = some (.string (⟨#[]⟩ : ByteArray)) := (blk_cell BK335.out 2).trans rfl; have hcz12_3 : w11.cell? ⟨gb335, 3, none⟩ = some (.int .i64 0) := (blk_cell BK335.out 3).trans rfl; have hcz12_4 : w11.cell? ⟨gb335, 4, none⟩ = some (.slice none 0 0) := (blk_cell BK335.out 4).trans rfl; have hfz12_0 := blk_frozen BK335.out 0; have hfz12_1 := blk_frozen BK335.out 1; have hfz12_2 := blk_frozen BK335.out 2; have hfz12_3 := blk_frozen BK335.out 3; have hfz12_4 := blk_frozen BK335.out 4))
   (try simp only [Act.put, List.setIfInBounds_toArray, List.set_cons_zero, List.set_cons_succ])
   go_cut [0, 7, 8] (fun v0 v7 v8 wc => ∃ (kq : Nat) (x0_4 : List Int) (x7_4 : Int) (x8_4 : Int) (x334000_4 : Int) (x334001_4 : ByteArray) (x334002_4 : ByteArray) (x334003_4 : Int) (x336002_4 : ByteArray) (x336003_4 : Int) (x336004_4 : List Int) (u336004 : Value), v7 = .int .i64 x7_4 ∧ v8 = .int .i64 x8_4 ∧ Aside0 (stream_record.j0 kq x0_4 x7_4 x8_4 (wrap64 (rd l0 0)) t337 x336002_4 x336003_4 x336004_4 = some (r1, r2, r3, r4, r5, r6, r7)) ∧ Aside0 (kq ≤ k) ∧ Aside0 (Kd.V (Kd.int .u8) 5 wc w.heap.size (fun k_ => (w.heap.size ≤ k_) ∧ some k_ ≠ (u336004 : Value).ownBlock ∧ k_ ≠ gb333 ∧ k_ ≠ gb335) v0 x0_4) ∧ Aside0 (Kd.R (Kd.int .u8) 5 wc w.heap.size (fun k_ => (w.heap.size ≤ k_)) u336004 x336004_4) ∧ Aside0 (wc.heap[gb333]? = some (.cells #[.int .i64 x334000_4, .string x334001_4, .string x334002_4, .int .i64 x334003_4, (.slice none 0 0)] 37 (0, 0))) ∧ Aside0 (wc.heap[gb335]? = some (.cells #[.int .i64 (wrap64 (rd l0 0)), .string t337, .string x336002_4, .int .i64 x336003_4, u336004] 37 (0, 0))) ∧ Aside0 (Below w.heap.size w wc))
   case first =>
    have H := HC5.out
    clear HC5
    by_cases c13 : t341 = 0
    ·rw [if_pos c13] at H
     have c13b0 : (t341 == 0) = true := beq_iff_eq.mpr c13
     have c13b1 : (t341 != 0) = false := bne_eq_false_iff_eq.mpr c13
     clear c13
     (first | rw [c13b0] | (simp only [i64_w, i32_w]; rw [c13b0]) | skip)
     by_cases c14 : (wrap64 (rd l0 0)) = 3
     ·rw [if_pos c14] at H
      have c14b0 : ((wrap64 (rd l0 0)) == 3) = true := beq_iff_eq.mpr c14
      have c14b1 : ((wrap64 (rd l0 0)) != 3) = false := bne_eq_false_iff_eq.mpr c14
      clear c14
      replace H := Option.bind_eq_some_iff.mp H
      obtain ⟨⟨t342, t343, t346⟩, A150, H⟩ := H
      replace H : (stream_record.j0 k t343 t346 0 (wrap64 (rd l0 0)) t337 t342 0 ([] : List Int)) = some (r1, r2, r3, r4, r5, r6, r7) := H
      have A15 := Aside0.mk A150
      clear A150
      have H' := Aside0.mk H
      clear H
      have hnb16 := NB335_333.out
      have hnc16 := NB333_335.out
      have hcz17_0 : w11.cell? ⟨gb335, 0, none⟩ = some (.int .i64 (wrap64 (rd l0 0))) := (blk_cell BK335.out 0).trans rfl
      have hcz17_1 : w11.cell? ⟨gb335, 1, none⟩ = some (.string (⟨#[]⟩ : ByteArray)) := (blk_cell BK335.out 1).trans rfl
      have hcz17_2 : w11.cell? ⟨gb335, 2, none⟩ = some (.string (⟨#[]⟩ : ByteArray)) := (blk_cell BK335.out 2).trans rfl
      have hcz17_3 : w11.cell? ⟨gb335, 3, none⟩ = some (.int .i64 0) := (blk_cell BK335.out 3).trans rfl
      have hcz17_4 : w11.cell? ⟨gb335, 4, none⟩ = some (.slice none 0 0) := (blk_cell BK335.out 4).trans rfl
      have hfz17_0 := blk_frozen BK335.out 0
      have hfz17_1 := blk_frozen BK335.out 1
      have hfz17_2 := blk_frozen BK335.out 2
      have hfz17_3 := blk_frozen BK335.out 3
      have hfz17_4 := blk_frozen BK335.out 4
      obtain ⟨Ao18, co18, eo18⟩ := Kd.V_slice HO340.out
      subst eo18
      go_wp2_with (first | ((with_reducible refine gate_callee (f := 51) rfl ?_); refine goesL_ (some 32) rfl rfl Tryd.func51 q18_ rfl #[.slice Ao18 t338.length co18] rfl q1_ ?_; (with_reducible refine (num_TakeText.calls _ _ t338 t342 t343 t346 _ ?side1 ?side2 A15.out).mono ?_); (case side1 => refine (Kd.V_reads' (e := 5) (base := w.heap.size) (ok := fun k_ => ((w.heap.size ≤ k_) ∧ (k_ ≠ gb333 ∧ k_ ≠ gb335))) (n := t338.length) (c := co18) ?_).2.2; exact q26_); (case side2 => exact (Kd.V_reads' HO340.out).2.1); rintro e w19 ⟨v344, rfl, ho0, hb⟩; refine ⟨_, rfl, ?_⟩; have n0_ := Aside0.mk (Kd.V_below q26_ hb); have n1_ := Aside0.mk (Kd.V_lower (Kd.V_mono (ok' := fun k_ => (w.heap.size ≤ k_) ∧ k_ ≠ gb333 ∧ k_ ≠ gb335) ho0 (fun k_ hk_ => ⟨(Nat.le_trans (below_size q8_) hk_), (Kd.freshB (g := gb333) (o := .cells #[.int .i64 0, .string (⟨#[]⟩ : ByteArray), .string (⟨#[]⟩ : ByteArray), .int .i64 0, .slice none 0 0] 37 (0, 0)) q17_ k_ hk_), (Kd.freshB (g := gb335) (o := .cells #[.int .i64 (wrap64 (rd l0 0)), .string t337, .string (⟨#[]⟩ : ByteArray), .int .i64 0, .slice none 0 0] 37 (0, 0)) q27_ k_ hk_)⟩)) (below_size q8_)); have n2_ := Aside0.mk (blk_below (g := gb333) (o := .cells #[.int .i64 0, .string (⟨#[]⟩ : ByteArray), .string (⟨#[]⟩ : ByteArray), .int .i64 0, .slice none 0 0] 37 (0, 0)) q17_ hb); have n3_ := Aside0.mk (blk_below (g := gb335) (o := .cells #[.int .i64 (wrap64 (rd l0 0)), .string t337, .string (⟨#[]⟩ : ByteArray), .int .i64 0, .slice none 0 0] 37 (0, 0)) q27_ hb); have n4_ := Aside0.mk (below_step q8_ hb); clear HO340; clear BK333; clear BK335; clear HB; have HO340 := n0_; have HO345 := n1_; have BK333 := n2_; have BK335 := n3_; have HB := n4_; clear n0_ n1_ n2_ n3_ n4_; (try clear hb); (try clear hb2); (try clear hk); (try clear hi); (try clear ho0); have hcz20_0 : w19.cell? ⟨gb335, 0, none⟩ = some (.int .i64 (wrap64 (rd l0 0))) := (blk_cell BK335.out 0).trans rfl; have hcz20_1 : w19.cell? ⟨gb335, 1, none⟩ = some (.string t337) := (blk_cell BK335.out 1).trans rfl; have hcz20_2 : w19.cell? ⟨gb335, 2, none⟩ = some (.string (⟨#[]⟩ : ByteArray)) := (blk_cell BK335.out 2).trans rfl; have hcz20_3 : w19.cell? ⟨gb335, 3, none⟩ = some (.int .i64 0) := (blk_cell BK335.out 3).trans rfl; have hcz20_4 : w19.cell? ⟨gb335, 4, none⟩ = some (.slice none 0 0) := (blk_cell BK335.out 4).trans rfl; have hfz20_0 := blk_frozen BK335.out 0; have hfz20_1 := blk_frozen BK335.out 1; have hfz20_2 := blk_frozen BK335.out 2; have hfz20_3 := blk_frozen BK335.out 3; have hfz20_4 := blk_frozen BK335.out 4))
      go_meet
      case rel => exact ⟨_, (t343), (t346), (0), (0), ((⟨#[]⟩ : ByteArray)), ((⟨#[]⟩ : ByteArray)), (0), (t342), (0), (([] : List Int)), (.slice none 0 0), q3_, q3_, H', ⟨q51_⟩, ⟨by (with_reducible repeat (first | apply Kd.V_alloc | apply Kd.V_drewN | apply Kd.V_drew)); exact Kd.V_mono (Kd.V_far (p := ⟨gb335, 2, none⟩) (Kd.V_mono HO345.out (fun k_ hk => (⟨hk, hk.2.2⟩ : _ ∧ k_ ≠ gb335))) (fun _ hk => hk.2) (.string t342)) (fun _ hk => ⟨hk.1.1, ⟨(by simp [Value.ownBlock]), ⟨hk.1.2.1, hk.1.2.2⟩⟩⟩)⟩, ⟨q72_⟩, ⟨q17_⟩, ⟨by (with_reducible repeat (first | refine blk_drewN ?_ _ | refine blk_drew ?_ | refine blk_alloc ?_ _)); refine blk_put (cs := #[.int .i64 (wrap64 (rd l0 0)), .string t337, .string (⟨#[]⟩ : ByteArray), .int .i64 0, .slice none 0 0]) ?_ 2 _ rfl; (with_reducible repeat (first | refine blk_drewN ?_ _ | refine blk_drew ?_ | refine blk_alloc ?_ _)); exact BK335.out⟩, ⟨q8_⟩⟩
     ·rw [if_neg c14] at H
      have c14b0 : ((wrap64 (rd l0 0)) == 3) = false := beq_eq_false_iff_ne.mpr c14
      have c14b1 : ((wrap64 (rd l0 0)) != 3) = true := bne_iff_ne.mpr c14
      by_cases c21 : (wrap64 (rd l0 0)) = 5
      ·rw [if_pos c21] at H
       have c21b0 : ((wrap64 (rd l0 0)) == 5) = true := beq_iff_eq.mpr c21
       have c21b1 : ((wrap64 (rd l0 0)) != 5) = false := bne_eq_false_iff_eq.mpr c21
       clear c21
       replace H := Option.bind_eq_some_iff.mp H
       obtain ⟨⟨t347, t348, t349⟩, A220, H⟩ := H
       replace H : (stream_record.j0 k t348 t349 0 (wrap64 (rd l0 0)) t337 (⟨#[]⟩ : ByteArray) t347 ([] : List Int)) = some (r1, r2, r3, r4, r5, r6, r7) := H
       have A22 := Aside0.mk A220
       clear A220
       have H' := Aside0.mk H
       clear H
       have hnb23 := NB335_333.out
       have hnc23 := NB333_335.out
       have hcz24_0 : w11.cell? ⟨gb335, 0, none⟩ = some (.int .i64 (wrap64 (rd l0 0))) := (blk_cell BK335.out 0).trans rfl
       have hcz24_1 : w11.cell? ⟨gb335, 1, none⟩ = some (.string (⟨#[]⟩ : ByteArray)) := (blk_cell BK335.out 1).trans rfl
       have hcz24_2 : w11.cell? ⟨gb335, 2, none⟩ = some (.string (⟨#[]⟩ : ByteArray)) := (blk_cell BK335.out 2).trans rfl
       have hcz24_3 : w11.cell? ⟨gb335, 3, none⟩ = some (.int .i64 0) := (blk_cell BK335.out 3).trans rfl
       have hcz24_4 : w11.cell? ⟨gb335, 4, none⟩ = some (.slice none 0 0) := (blk_cell BK335.out 4).trans rfl
       have hfz24_0 := blk_frozen BK335.out 0
       have hfz24_1 := blk_frozen BK335.out 1
       have hfz24_2 := blk_frozen BK335.out 2
       have hfz24_3 := blk_frozen BK335.out 3
       have hfz24_4 := blk_frozen BK335.out 4
       obtain ⟨Ao25, co25, eo25⟩ := Kd.V_slice HO340.out
       subst eo25
       go_wp2_with (first | ((with_reducible refine gate_callee (f := 52) rfl ?_); refine goesL_ (some 43) rfl rfl Tryd.func52 q18_ rfl #[.slice Ao25 t338.length co25, .int .i64 4] rfl q1_ ?_; (with_reducible refine (num_Take.calls _ _ t338 4 t347 t348 t349 _ ?side1 ?side2 A22.out).mono ?_); (case side1 => refine (Kd.V_reads' (e := 5) (base := w.heap.size) (ok := fun k_ => ((w.heap.size ≤ k_) ∧ (k_ ≠ gb333 ∧ k_ ≠ gb335))) (n := t338.length) (c := co25) ?_).2.2; exact q26_); (case side2 => exact (Kd.V_reads' HO340.out).2.1); rintro e w26 ⟨v350, rfl, ho0, hb⟩; refine ⟨_, rfl, ?_⟩; have n0_ := Aside0.mk (Kd.V_elder' q26_ (Kd.R_base ho0) hb); have n1_ := Aside0.mk (Kd.R_lower (Kd.R_newM (M := fun k_ => (w.heap.size ≤ k_)) ho0 (below_size q8_) (fun k_ h_ => h_)) (below_size q8_)); have n2_ := Aside0.mk (blk_below (g := gb333) (o := .cells #[.int .i64 0, .string (⟨#[]⟩ : ByteArray), .string (⟨#[]⟩ : ByteArray), .int .i64 0, .slice none 0 0] 37 (0, 0)) q17_ hb); have n3_ := Aside0.mk (blk_below (g := gb335) (o := .cells #[.int .i64 (wrap64 (rd l0 0)), .string t337, .string (⟨#[]⟩ : ByteArray), .int .i64 0, .slice none 0 0] 37 (0, 0)) q27_ hb); have n4_ := Aside0.mk (below_step q8_ hb); clear HO340; clear BK333; clear BK335; clear HB; have HO340 := n0_; have HO351 := n1_; have BK333 := n2_; have BK335 := n3_; have HB := n4_; clear n0_ n1_ n2_ n3_ n4_; (try clear hb); (try clear hb2); (try clear hk); (try clear hi); (try clear ho0); have hcz27_0 : w26.cell? ⟨gb335, 0, none⟩ = some (.int .i64 (wrap64 (rd l0 0))) := (blk_cell BK335.out 0).trans rfl; have hcz27_1 : w26.cell? ⟨gb335, 1, none⟩ = some (.string t337) := (blk_cell BK335.out 1).trans rfl; have hcz27_2 : w26.cell? ⟨gb335, 2, none⟩ = some (.string (⟨#[]⟩ : ByteArray)) := (blk_cell BK335.out 2).trans rfl; have hcz27_3 : w26.cell? ⟨gb335, 3, none⟩ = some (.int .i64 0) := (blk_cell BK335.out 3).trans rfl; have hcz27_4 : w26.cell? ⟨gb335, 4, none⟩ = some (.slice none 0 0) := (blk_cell BK335.out 4).trans rfl; have hfz27_0 := blk_frozen BK335.out 0; have hfz27_1 := blk_frozen BK335.out 1; have hfz27_2 := blk_frozen BK335.out 2; have hfz27_3 := blk_frozen BK335.out 3; have hfz27_4 := blk_frozen BK335.out 4))
       go_meet
       case rel => exact ⟨_, (t348), (t349), (0), (0), ((⟨#[]⟩ : ByteArray)), ((⟨#[]⟩ : ByteArray)), (0), ((⟨#[]⟩ : ByteArray)), (t347), (([] : List Int)), (.slice none 0 0), q3_, q3_, H', ⟨q51_⟩, ⟨Kd.R_V (by (with_reducible repeat (first | apply Kd.R_alloc | apply Kd.R_drewN | apply Kd.R_drew)); exact Kd.R_mono (Kd.R_far (p := ⟨gb335, 3, none⟩) (Kd.R_types (Kd.R_types (Kd.R_types HO351.out BK333.out q81_) BK335.out q81_) BK335.out q81_) (fun _ hk => hk.2) (.int .i64 t347)) (fun _ hk => ⟨hk.1.1.1.1, ⟨(by simp [Value.ownBlock]), ⟨hk.1.1.2, hk.1.2⟩⟩⟩))⟩, ⟨q72_⟩, ⟨q17_⟩, ⟨q43_⟩, ⟨q8_⟩⟩
      ·rw [if_neg c21] at H
       have c21b0 : ((wrap64 (rd l0 0)) == 5) = false := beq_eq_false_iff_ne.mpr c21
       have c21b1 : ((wrap64 (rd l0 0)) != 5) = true := bne_iff_ne.mpr c21
       by_cases c28 : (wrap64 (rd l0 0)) = 4
       ·rw [if_pos c28] at H
        have c28b0 : ((wrap64 (rd l0 0)) == 4) = true := beq_iff_eq.mpr c28
        have c28b1 : ((wrap64 (rd l0 0)) != 4) = false := bne_eq_false_iff_eq.mpr c28
        clear c28
        replace H := Option.bind_eq_some_iff.mp H
        obtain ⟨⟨t352, t353, t354⟩, A290, H⟩ := H
        replace H : (if t354 = 0 then ((num_TakeBytes.f t353).bind fun bt357 => (stream_record.j0 k bt357.2.1 t354 bt357.2.2 (wrap64 (rd l0 0)) t337 (⟨#[]⟩ : ByteArray) t352 bt357.1)) else (stream_record.j0 k t353 t354 0 (wrap64 (rd l0 0)) t337 (⟨#[]⟩ : ByteArray) t352 ([] : List Int))) = some (r1, r2, r3, r4, r5, r6, r7) := H
        have A29 := Aside0.mk A290
        clear A290
        by_cases c30 : t354 = 0
        ·rw [if_pos c30] at H
         have c30b0 : (t354 == 0) = true := beq_iff_eq.mpr c30
         have c30b1 : (t354 != 0) = false := bne_eq_false_iff_eq.mpr c30
         clear c30
         replace H := Option.bind_eq_some_iff.mp H
         obtain ⟨⟨t357, t360, t363⟩, A310, H⟩ := H
         replace H : (stream_record.j0 k t360 t354 t363 (wrap64 (rd l0 0)) t337 (⟨#[]⟩ : ByteArray) t352 t357) = some (r1, r2, r3, r4, r5, r6, r7) := H
         have A31 := Aside0.mk A310
         clear A310
         have H' := Aside0.mk H
         clear H
         have hnb32 := NB335_333.out
         have hnc32 := NB333_335.out
         have hcz33_0 : w11.cell? ⟨gb335, 0, none⟩ = some (.int .i64 (wrap64 (rd l0 0))) := (blk_cell BK335.out 0).trans rfl
         have hcz33_1 : w11.cell? ⟨gb335, 1, none⟩ = some (.string (⟨#[]⟩ : ByteArray)) := (blk_cell BK335.out 1).trans rfl
         have hcz33_2 : w11.cell? ⟨gb335, 2, none⟩ = some (.string (⟨#[]⟩ : ByteArray)) := (blk_cell BK335.out 2).trans rfl
         have hcz33_3 : w11.cell? ⟨gb335, 3, none⟩ = some (.int .i64 0) := (blk_cell BK335.out 3).trans rfl
         have hcz33_4 : w11.cell? ⟨gb335, 4, none⟩ = some (.slice none 0 0) := (blk_cell BK335.out 4).trans rfl
         have hfz33_0 := blk_frozen BK335.out 0
         have hfz33_1 := blk_frozen BK335.out 1
         have hfz33_2 := blk_frozen BK335.out 2
         have hfz33_3 := blk_frozen BK335.out 3
         have hfz33_4 := blk_frozen BK335.out 4
         obtain ⟨Ao34, co34, eo34⟩ := Kd.V_slice HO340.out
         subst eo34
         go_wp2_with (first | ((with_reducible refine gate_callee (f := 52) rfl ?_); refine goesL_ (some 54) rfl rfl Tryd.func52 q18_ rfl #[.slice Ao34 t338.length co34, .int .i64 4] rfl q1_ ?_; (with_reducible refine (num_Take.calls _ _ t338 4 t352 t353 t354 _ ?side1 ?side2 A29.out).mono ?_); (case side1 => refine (Kd.V_reads' (e := 5) (base := w.heap.size) (ok := fun k_ => ((w.heap.size ≤ k_) ∧ (k_ ≠ gb333 ∧ k_ ≠ gb335))) (n := t338.length) (c := co34) ?_).2.2; exact q26_); (case side2 => exact (Kd.V_reads' HO340.out).2.1); rintro e w35 ⟨v355, rfl, ho0, hb⟩; refine ⟨_, rfl, ?_⟩; have n0_ := Aside0.mk (Kd.V_elder' q26_ (Kd.R_base ho0) hb); have n1_ := Aside0.mk (Kd.R_lower (Kd.R_newM (M := fun k_ => (w.heap.size ≤ k_)) ho0 (below_size q8_) (fun k_ h_ => h_)) (below_size q8_)); have n2_ := Aside0.mk (blk_below (g := gb333) (o := .cells #[.int .i64 0, .string (⟨#[]⟩ : ByteArray), .string (⟨#[]⟩ : ByteArray), .int .i64 0, .slice none 0 0] 37 (0, 0)) q17_ hb); have n3_ := Aside0.mk (blk_below (g := gb335) (o := .cells #[.int .i64 (wrap64 (rd l0 0)), .string t337, .string (⟨#[]⟩ : ByteArray), .int .i64 0, .slice none 0 0] 37 (0, 0)) q27_ hb); have n4_ := Aside0.mk (below_step q8_ hb); clear HO340; clear BK333; clear BK335; clear HB; have HO340 := n0_; have HO356 := n1_; have BK333 := n2_; have BK335 := n3_; have HB := n4_; clear n0_ n1_ n2_ n3_ n4_; (try clear hb); (try clear hb2); (try clear hk); (try clear hi); (try clear ho0); have hcz36_0 : w35.cell? ⟨gb335, 0, none⟩ = some (.int .i64 (wrap64 (rd l0 0))) := (blk_cell BK335.out 0).trans rfl; have hcz36_1 : w35.cell? ⟨gb335, 1, none⟩ = some (.string t337) := (blk_cell BK335.out 1).trans rfl; have hcz36_2 : w35.cell? ⟨gb335, 2, none⟩ = some (.string (⟨#[]⟩ : ByteArray)) := (blk_cell BK335.out 2).trans rfl; have hcz36_3 : w35.cell? ⟨gb335, 3, none⟩ = some (.int .i64 0) := (blk_cell BK335.out 3).trans rfl; have hcz36_4 : w35.cell? ⟨gb335, 4, none⟩ = some (.slice none 0 0) := (blk_cell BK335.out 4).trans rfl; have hfz36_0 := blk_frozen BK335.out 0; have hfz36_1 := blk_frozen BK335.out 1; have hfz36_2 := blk_frozen BK335.out 2; have hfz36_3 := blk_frozen BK335.out 3; have hfz36_4 := blk_frozen BK335.out 4; obtain ⟨Ao37, co37, eo37⟩ := Kd.R_slice HO356.out; subst eo37) | ((with_reducible refine gate_callee (f := 53) rfl ?_); refine goesL_ (some 63) rfl rfl Tryd.func53 q18_ rfl #[.slice Ao37 t353.length co37] rfl q1_ ?_; (with_reducible refine (num_TakeBytes.calls _ _ t353 t357 t360 t363 _ ?side1 ?side2 A31.out).mono ?_); (case side1 => refine (Kd.R_reads' (e := 5) (base := w.heap.size) (ok := fun k_ => ((w.heap.size ≤ k_) ∧ True)) (n := t353.length) (c := co37) ?_).2.2; exact q50_); (case side2 => exact (Kd.R_reads' HO356.out).2.1); rintro e w38 ⟨v358, v361, rfl, ho0, ho1, hb⟩; refine ⟨_, rfl, ?_⟩; have n0_ := Aside0.mk (Kd.V_elder' (by (with_reducible repeat (first | apply Kd.V_alloc | apply Kd.V_drewN | apply Kd.V_drew)); exact (Kd.V_mono (Kd.V_far (p := ⟨gb335, 3, none⟩) (Kd.V_mono HO340.out (fun k_ hk => (⟨hk, hk.1.2.2⟩ : _ ∧ k_ ≠ gb335))) (fun _ hk => hk.2) (.int .i64 t352)) (fun _ h_ => h_.1))) (Kd.R_base ho0) hb); have n1_ := Aside0.mk (Kd.R_elder' q50_ (Kd.R_base ho0) hb); have n2_ := Aside0.mk (Kd.R_lower (Kd.R_new' (Kd.R_newM (M := fun k_ => (w.heap.size ≤ k_)) (Kd.R_mono (ok' := fun k_ => True) ho0 (fun _ hk_ => trivial)) (below_size q8_) (fun k_ h_ => h_)) (Kd.R_lt q50_)) (below_size q8_)); have n3_ := Aside0.mk (Kd.V_lower (Kd.V_mono (ok' := fun k_ => (w.heap.size ≤ k_) ∧ some k_ ≠ (v358 : Value).ownBlock ∧ some k_ ≠ (.slice Ao37 t353.length co37 : Value).ownBlock ∧ k_ ≠ gb333 ∧ k_ ≠ gb335) ho1 (fun k_ hk_ => ⟨(Nat.le_trans (below_size q8_) hk_.1), hk_.2, (Kd.fresh' (Kd.R_lt q50_) k_ hk_.1), (Kd.freshB (g := gb333) (o := .cells #[.int .i64 0, .string (⟨#[]⟩ : ByteArray), .string (⟨#[]⟩ : ByteArray), .int .i64 0, .slice none 0 0] 37 (0, 0)) q17_ k_ hk_.1), (Kd.freshB (g := gb335) (o := .cells #[.int .i64 (wrap64 (rd l0 0)), .string t337, .string (⟨#[]⟩ : ByteArray), .int .i64 t352, .slice none 0 0] 37 (0, 0)) q43_ k_ hk_.1)⟩)) (below_size q8_)); have n4_ := Aside0.mk (blk_below (g := gb333) (o := .cells #[.int .i64 0, .string (⟨#[]⟩ : ByteArray), .string (⟨#[]⟩ : ByteArray), .int .i64 0, .slice none 0 0] 37 (0, 0)) q17_ hb); have n5_ := Aside0.mk (blk_below (g := gb335) (o := .cells #[.int .i64 (wrap64 (rd l0 0)), .string t337, .string (⟨#[]⟩ : ByteArray), .int .i64 t352, .slice none 0 0] 37 (0, 0)) q43_ hb); have n6_ := Aside0.mk (below_step q8_ hb); clear HO340; clear HO356; clear BK333; clear BK335; clear HB; have HO340 := n0_; have HO356 := n1_; have HO359 := n2_; have HO362 := n3_; have BK333 := n4_; have BK335 := n5_; have HB := n6_; clear n0_ n1_ n2_ n3_ n4_ n5_ n6_; (try clear hb); (try clear hb2); (try clear hk); (try clear hi); (try clear ho0); (try clear ho1); obtain ⟨Ao39, co39, eo39⟩ := Kd.R_slice HO359.out; subst eo39; have hcz40_0 : w38.cell? ⟨gb335, 0, none⟩ = some (.int .i64 (wrap64 (rd l0 0))) := (blk_cell BK335.out 0).trans rfl; have hcz40_1 : w38.cell? ⟨gb335, 1, none⟩ = some (.string t337) := (blk_cell BK335.out 1).trans rfl; have hcz40_2 : w38.cell? ⟨gb335, 2, none⟩ = some (.string (⟨#[]⟩ : ByteArray)) := (blk_cell BK335.out 2).trans rfl; have hcz40_3 : w38.cell? ⟨gb335, 3, none⟩ = some (.int .i64 t352) := (blk_cell BK335.out 3).trans rfl; have hcz40_4 : w38.cell? ⟨gb335, 4, none⟩ = some (.slice none 0 0) := (blk_cell BK335.out 4).trans rfl; have hfz40_0 := blk_frozen BK335.out 0; have hfz40_1 := blk_frozen BK335.out 1; have hfz40_2 := blk_frozen BK335.out 2; have hfz40_3 := blk_frozen BK335.out 3; have hfz40_4 := blk_frozen BK335.out 4))
         go_meet
         case rel => exact ⟨_, (t360), (t354), (t363), (0), ((⟨#[]⟩ : ByteArray)), ((⟨#[]⟩ : ByteArray)), (0), ((⟨#[]⟩ : ByteArray)), (t352), (t357), (.slice Ao39 t357.length co39), q3_, q3_, H', ⟨q51_⟩, ⟨by (with_reducible repeat (first | apply Kd.V_alloc | apply Kd.V_drewN | apply Kd.V_drew)); exact Kd.V_mono (Kd.V_far (p := ⟨gb335, 4, none⟩) (Kd.V_mono HO362.out (fun k_ hk => (⟨hk, hk.2.2.2.2⟩ : _ ∧ k_ ≠ gb335))) (fun _ hk => hk.2) (.slice Ao39 t357.length co39)) (fun _ hk => ⟨hk.1.1, ⟨hk.1.2.1, ⟨hk.1.2.2.2.1, hk.1.2.2.2.2⟩⟩⟩)⟩, ⟨by (with_reducible repeat (first | apply Kd.R_alloc | apply Kd.R_drewN | apply Kd.R_drew)); exact Kd.R_mono (Kd.R_far (p := ⟨gb335, 4, none⟩) (Kd.R_types HO359.out BK335.out q81_) (fun _ hk => hk.2) (.slice Ao39 t357.length co39)) (fun _ hk => hk.1.1.1)⟩, ⟨q17_⟩, ⟨by (with_reducible repeat (first | refine blk_drewN ?_ _ | refine blk_drew ?_ | refine blk_alloc ?_ _)); refine blk_put (cs := #[.int .i64 (wrap64 (rd l0 0)), .string t337, .string (⟨#[]⟩ : ByteArray), .int .i64 t352, .slice none 0 0]) ?_ 4 _ rfl; (with_reducible repeat (first | refine blk_drewN ?_ _ | refine blk_drew ?_ | refine blk_alloc ?_ _)); exact BK335.out⟩, ⟨q8_⟩⟩
        ·rw [if_neg c30] at H
         have c30b0 : (t354 == 0) = false := beq_eq_false_iff_ne.mpr c30
         have c30b1 : (t354 != 0) = true := bne_iff_ne.mpr c30
         have H' := Aside0.mk H
         clear H
         have hnb41 := NB335_333.out
         have hnc41 := NB333_335.out
         have hcz42_0 : w11.cell? ⟨gb335, 0, none⟩ = some (.int .i64 (wrap64 (rd l0 0))) := (blk_cell BK335.out 0).trans rfl
         have hcz42_1 : w11.cell? ⟨gb335, 1, none⟩ = some (.string (⟨#[]⟩ : ByteArray)) := (blk_cell BK335.out 1).trans rfl
         have hcz42_2 : w11.cell? ⟨gb335, 2, none⟩ = some (.string (⟨#[]⟩ : ByteArray)) := (blk_cell BK335.out 2).trans rfl
         have hcz42_3 : w11.cell? ⟨gb335, 3, none⟩ = some (.int .i64 0) := (blk_cell BK335.out 3).trans rfl
         have hcz42_4 : w11.cell? ⟨gb335, 4, none⟩ = some (.slice none 0 0) := (blk_cell BK335.out 4).trans rfl
         have hfz42_0 := blk_frozen BK335.out 0
         have hfz42_1 := blk_frozen BK335.out 1
         have hfz42_2 := blk_frozen BK335.out 2
         have hfz42_3 := blk_frozen BK335.out 3
         have hfz42_4 := blk_frozen BK335.out 4
         obtain ⟨Ao43, co43, eo43⟩ := Kd.V_slice HO340.out
         subst eo43
         go_wp2_with (first | ((with_reducible refine gate_callee (f := 52) rfl ?_); refine goesL_ (some 54) rfl rfl Tryd.func52 q18_ rfl #[.slice Ao43 t338.length co43, .int .i64 4] rfl q1_ ?_; (with_reducible refine (num_Take.calls _ _ t338 4 t352 t353 t354 _ ?side1 ?side2 A29.out).mono ?_); (case side1 => refine (Kd.V_reads' (e := 5) (base := w.heap.size) (ok := fun k_ => ((w.heap.size ≤ k_) ∧ (k_ ≠ gb333 ∧ k_ ≠ gb335))) (n := t338.length) (c := co43) ?_).2.2; exact q26_); (case side2 => exact (Kd.V_reads' HO340.out).2.1); rintro e w44 ⟨v355, rfl, ho0, hb⟩; refine ⟨_, rfl, ?_⟩; have n0_ := Aside0.mk (Kd.V_elder' q26_ (Kd.R_base ho0) hb); have n1_ := Aside0.mk (Kd.R_lower (Kd.R_newM (M := fun k_ => (w.heap.size ≤ k_)) ho0 (below_size q8_) (fun k_ h_ => h_)) (below_size q8_)); have n2_ := Aside0.mk (blk_below (g := gb333) (o := .cells #[.int .i64 0, .string (⟨#[]⟩ : ByteArray), .string (⟨#[]⟩ : ByteArray), .int .i64 0, .slice none 0 0] 37 (0, 0)) q17_ hb); have n3_ := Aside0.mk (blk_below (g := gb335) (o := .cells #[.int .i64 (wrap64 (rd l0 0)), .string t337, .string (⟨#[]⟩ : ByteArray), .int .i64 0, .slice none 0 0] 37 (0, 0)) q27_ hb); have n4_ := Aside0.mk (below_step q8_ hb); clear HO340; clear BK333; clear BK335; clear HB; have HO340 := n0_; have HO356 := n1_; have BK333 := n2_; have BK335 := n3_; have HB := n4_; clear n0_ n1_ n2_ n3_ n4_; (try clear hb); (try clear hb2); (try clear hk); (try clear hi); (try clear ho0); have hcz45_0 : w44.cell? ⟨gb335, 0, none⟩ = some (.int .i64 (wrap64 (rd l0 0))) := (blk_cell BK335.out 0).trans rfl; have hcz45_1 : w44.cell? ⟨gb335, 1, none⟩ = some (.string t337) := (blk_cell BK335.out 1).trans rfl; have hcz45_2 : w44.cell? ⟨gb335, 2, none⟩ = some (.string (⟨#[]⟩ : ByteArray)) := (blk_cell BK335.out 2).trans rfl; have hcz45_3 : w44.cell? ⟨gb335, 3, none⟩ = some (.int .i64 0) := (blk_cell BK335.out 3).trans rfl; have hcz45_4 : w44.cell? ⟨gb335, 4, none⟩ = some (.slice none 0 0) := (blk_cell BK335.out 4).trans rfl; have hfz45_0 := blk_frozen BK335.out 0; have hfz45_1 := blk_frozen BK335.out 1; have hfz45_2 := blk_frozen BK335.out 2; have hfz45_3 := blk_frozen BK335.out 3; have hfz45_4 := blk_frozen BK335.out 4))
         go_meet
         case rel => exact ⟨_, (t353), (t354), (0), (0), ((⟨#[]⟩ : ByteArray)), ((⟨#[]⟩ : ByteArray)), (0), ((⟨#[]⟩ : ByteArray)), (t352), (([] : List Int)), (.slice none 0 0), q3_, q3_, H', ⟨q51_⟩, ⟨Kd.R_V (by (with_reducible repeat (first | apply Kd.R_alloc | apply Kd.R_drewN | apply Kd.R_drew)); exact Kd.R_mono (Kd.R_far (p := ⟨gb335, 3, none⟩) (Kd.R_types (Kd.R_types (Kd.R_types HO356.out BK333.out q81_) BK335.out q81_) BK335.out q81_) (fun _ hk => hk.2) (.int .i64 t352)) (fun _ hk => ⟨hk.1.1.1.1, ⟨(by simp [Value.ownBlock]), ⟨hk.1.1.2, hk.1.2⟩⟩⟩))⟩, ⟨q72_⟩, ⟨q17_⟩, ⟨q43_⟩, ⟨q8_⟩⟩
       ·rw [if_neg c28] at H
        have c28b0 : ((wrap64 (rd l0 0)) == 4) = false := beq_eq_false_iff_ne.mpr c28
        have c28b1 : ((wrap64 (rd l0 0)) != 4) = true := bne_iff_ne.mpr c28
        have H' := Aside0.mk H
        clear H
        have hnb46 := NB335_333.out
        have hnc46 := NB333_335.out
        have hcz47_0 : w11.cell? ⟨gb335, 0, none⟩ = some (.int .i64 (wrap64 (rd l0 0))) := (blk_cell BK335.out 0).trans rfl
        have hcz47_1 : w11.cell? ⟨gb335, 1, none⟩ = some (.string (⟨#[]⟩ : ByteArray)) := (blk_cell BK335.out 1).trans rfl
        have hcz47_2 : w11.cell? ⟨gb335, 2, none⟩ = some (.string (⟨#[]⟩ : ByteArray)) := (blk_cell BK335.out 2).trans rfl
        have hcz47_3 : w11.cell? ⟨gb335, 3, none⟩ = some (.int .i64 0) := (blk_cell BK335.out 3).trans rfl
        have hcz47_4 : w11.cell? ⟨gb335, 4, none⟩ = some (.slice none 0 0) := (blk_cell BK335.out 4).trans rfl
        have hfz47_0 := blk_frozen BK335.out 0
        have hfz47_1 := blk_frozen BK335.out 1
        have hfz47_2 := blk_frozen BK335.out 2
        have hfz47_3 := blk_frozen BK335.out 3
        have hfz47_4 := blk_frozen BK335.out 4
        go_wp2
        go_meet
        case rel => exact ⟨_, (t338), (0), (0), (0), ((⟨#[]⟩ : ByteArray)), ((⟨#[]⟩ : ByteArray)), (0), ((⟨#[]⟩ : ByteArray)), (0), (([] : List Int)), (.slice none 0 0), q3_, q3_, H', ⟨q51_⟩, ⟨by (with_reducible repeat (first | apply Kd.V_alloc | apply Kd.V_drewN | apply Kd.V_drew)); exact Kd.V_mono (Kd.V_far (p := ⟨gb335, 1, none⟩) (Kd.V_mono HO340.out (fun k_ hk => (⟨hk, hk.2.2⟩ : _ ∧ k_ ≠ gb335))) (fun _ hk => hk.2) (.string t337)) (fun _ hk => ⟨hk.1.1, ⟨(by simp [Value.ownBlock]), ⟨hk.1.2.1, hk.1.2.2⟩⟩⟩)⟩, ⟨q72_⟩, ⟨q17_⟩, ⟨q27_⟩, ⟨q8_⟩⟩
    ·rw [if_neg c13] at H
     have c13b0 : (t341 == 0) = false := beq_eq_false_iff_ne.mpr c13
     have c13b1 : (t341 != 0) = true := bne_iff_ne.mpr c13
     (first | rw [c13b0] | (simp only [i64_w, i32_w]; rw [c13b0]) | skip)
     simp only [Option.some.injEq, Prod.mk.injEq] at H
     obtain ⟨rfl, rfl, rfl, rfl, rfl, rfl, rfl⟩ := H
     have hnb48 := NB335_333.out
     have hnc48 := NB333_335.out
     have hcz49_0 : w11.cell? ⟨gb335, 0, none⟩ = some (.int .i64 (wrap64 (rd l0 0))) := (blk_cell BK335.out 0).trans rfl
     have hcz49_1 : w11.cell? ⟨gb335, 1, none⟩ = some (.string (⟨#[]⟩ : ByteArray)) := (blk_cell BK335.out 1).trans rfl
     have hcz49_2 : w11.cell? ⟨gb335, 2, none⟩ = some (.string (⟨#[]⟩ : ByteArray)) := (blk_cell BK335.out 2).trans rfl
     have hcz49_3 : w11.cell? ⟨gb335, 3, none⟩ = some (.int .i64 0) := (blk_cell BK335.out 3).trans rfl
     have hcz49_4 : w11.cell? ⟨gb335, 4, none⟩ = some (.slice none 0 0) := (blk_cell BK335.out 4).trans rfl
     have hfz49_0 := blk_frozen BK335.out 0
     have hfz49_1 := blk_frozen BK335.out 1
     have hfz49_2 := blk_frozen BK335.out 2
     have hfz49_3 := blk_frozen BK335.out 3
     have hfz49_4 := blk_frozen BK335.out 4
     have hcz50_0 : w11.cell? ⟨gb333, 0, none⟩ = some (.int .i64 0) := (blk_cell BK333.out 0).trans rfl
     have hcz50_1 : w11.cell? ⟨gb333, 1, none⟩ = some (.string (⟨#[]⟩ : ByteArray)) := (blk_cell BK333.out 1).trans rfl
     have hcz50_2 : w11.cell? ⟨gb333, 2, none⟩ = some (.string (⟨#[]⟩ : ByteArray)) := (blk_cell BK333.out 2).trans rfl
     have hcz50_3 : w11.cell? ⟨gb333, 3, none⟩ = some (.int .i64 0) := (blk_cell BK333.out 3).trans rfl
     have hcz50_4 : w11.cell? ⟨gb333, 4, none⟩ = some (.slice none 0 0) := (blk_cell BK333.out 4).trans rfl
     have hfz50_0 := blk_frozen BK333.out 0
     have hfz50_1 := blk_frozen BK333.out 1
     have hfz50_2 := blk_frozen BK333.out 2
     have hfz50_3 := blk_frozen BK333.out 3
     have hfz50_4 := blk_frozen BK333.out 4
     go_wp2
     refine bodyPost_ret (results_ctt rfl _ _ gb333 37 #[.int .i64 (wrap64 (rd l0 0)), .string t337, .string (⟨#[]⟩ : ByteArray), .int .i64 0, .slice none 0 0] (0, 0) _ rfl (by (with_reducible repeat (first | refine blk_drewN ?_ _ | refine blk_drew ?_ | refine blk_alloc ?_ _)); refine blk_put (cs := #[.int .i64 (wrap64 (rd l0 0)), .string t337, .string (⟨#[]⟩ : ByteArray), .int .i64 0, .slice none 0 0]) ?_ 4 _ rfl; (with_reducible repeat (first | refine blk_drewN ?_ _ | refine blk_drew ?_ | refine blk_alloc ?_ _)); refine blk_put (cs := #[.int .i64 (wrap64 (rd l0 0)), .string t337, .string (⟨#[]⟩ : ByteArray), .int .i64 0, .slice none 0 0]) ?_ 3 _ rfl; (with_reducible repeat (first | refine blk_drewN ?_ _ | refine blk_drew ?_ | refine blk_alloc ?_ _)); refine blk_put (cs := #[.int .i64 (wrap64 (rd l0 0)), .string t337, .string (⟨#[]⟩ : ByteArray), .int .i64 0, .slice none 0 0]) ?_ 2 _ rfl; (with_reducible repeat (first | refine blk_drewN ?_ _ | refine blk_drew ?_ | refine blk_alloc ?_ _)); refine blk_put (cs := #[.int .i64 (wrap64 (rd l0 0)), .string (⟨#[]⟩ : ByteArray), .string (⟨#[]⟩ : ByteArray), .int .i64 0, .slice none 0 0]) ?_ 1 _ rfl; (with_reducible repeat (first | refine blk_drewN ?_ _ | refine blk_drew ?_ | refine blk_alloc ?_ _)); refine blk_put (cs := #[.int .i64 0, .string (⟨#[]⟩ : ByteArray), .string (⟨#[]⟩ : ByteArray), .int .i64 0, .slice none 0 0]) ?_ 0 _ rfl; (with_reducible repeat (first | refine blk_drewN ?_ _ | refine blk_drew ?_ | refine blk_alloc ?_ _)); refine blk_far ?_ NB333_335.out _; (with_reducible repeat (first | refine blk_drewN ?_ _ | refine blk_drew ?_ | refine blk_alloc ?_ _)); exact BK333.out) Tryd.underlying37 rfl q18_) rfl ?_
     exact ⟨_, _, by first | rfl | (simp [errW_none, errW_some] <;> rfl) | (simp [*, errW_none, errW_some] <;> rfl), by first | exact Kd.R_nil _ _ _ _ _ | exact Kd.N_nil _ _ _ _ _ | exact Kd.V_nil _ _ _ _ _ | exact Kd.Q_nil _ _ _ _ _ | exact Kd.S_nil _ _ _ _ _, Kd.V_nil _ _ _ _ _, by repeat (first | (with_reducible first | exact HB.out | apply below_alloc | apply pw_below_drewN | apply below_drew1 | refine below_set ?_ GE333.out | refine below_set ?_ GE335.out) | exact HB.out)⟩
   case rest =>
    clear HC5
    try clear c1
    try clear c2
    try clear c2b0
    try clear c2b1
    try clear p2
    try clear c3
    try clear c3b0
    try clear c3b1
    try clear p3
    try clear q3
    try clear hx3
    try clear qi3
    try clear c4
    try clear c5
    try clear p6
    try clear c8
    try clear c13
    try clear c13b0
    try clear c13b1
    try clear c14
    try clear c14b0
    try clear c14b1
    try clear c16
    try clear c21
    try clear c21b0
    try clear c21b1
    try clear c23
    try clear c28
    try clear c28b0
    try clear c28b1
    try clear c30
    try clear c30b0
    try clear c30b1
    try clear c32
    try clear p33
    try clear q33
    try clear hx33
    try clear qi33
    try clear c38
    try clear c41
    try clear c46
    try clear c48
    try clear hcz12_0
    try clear hcz12_1
    try clear hcz12_2
    try clear hcz12_3
    try clear hcz12_4
    try clear hcz17_0
    try clear hcz17_1
    try clear hcz17_2
    try clear hcz17_3
    try clear hcz17_4
    try clear hcz20_0
    try clear hcz20_1
    try clear hcz20_2
    try clear hcz20_3
    try clear hcz20_4
    try clear hcz24_0
    try clear hcz24_1
    try clear hcz24_2
    try clear hcz24_3
    try clear hcz24_4
    try clear hcz27_0
    try clear hcz27_1
    try clear hcz27_2
    try clear hcz27_3
    try clear hcz27_4
    try clear hcz33_0
    try clear hcz33_1
    try clear hcz33_2
    try clear hcz33_3
    try clear hcz33_4
    try clear hcz36_0
    try clear hcz36_1
    try clear hcz36_2
    try clear hcz36_3
    try clear hcz36_4
    try clear hcz40_0
    try clear hcz40_1
    try clear hcz40_2
    try clear hcz40_3
    try clear hcz40_4
    try clear hcz42_0
    try clear hcz42_1
    try clear hcz42_2
    try clear hcz42_3
    try clear hcz42_4
    try clear hcz45_0
    try clear hcz45_1
    try clear hcz45_2
    try clear hcz45_3
    try clear hcz45_4
    try clear hcz47_0
    try clear hcz47_1
    try clear hcz47_2
    try clear hcz47_3
    try clear hcz47_4
    try clear hcz49_0
    try clear hcz49_1
    try clear hcz49_2
    try clear hcz49_3
    try clear hcz49_4
    try clear hcz50_0
    try clear hcz50_1
    try clear hcz50_2
    try clear hcz50_3
    try clear hcz50_4
    try clear hcz9_0
    try clear hcz9_1
    try clear hcz9_2
    try clear hcz9_3
    try clear hcz9_4
    try clear hfz12_0
    try clear hfz12_1
    try clear hfz12_2
    try clear hfz12_3
    try clear hfz12_4
    try clear hfz17_0
    try clear hfz17_1
    try clear hfz17_2
    try clear hfz17_3
    try clear hfz17_4
    try clear hfz20_0
    try clear hfz20_1
    try clear hfz20_2
    try clear hfz20_3
    try clear hfz20_4
    try clear hfz24_0
    try clear hfz24_1
    try clear hfz24_2
    try clear hfz24_3
    try clear hfz24_4
    try clear hfz27_0
    try clear hfz27_1
    try clear hfz27_2
    try clear hfz27_3
    try clear hfz27_4
    try clear hfz33_0
    try clear hfz33_1
    try clear hfz33_2
    try clear hfz33_3
    try clear hfz33_4
    try clear hfz36_0
    try clear hfz36_1
    try clear hfz36_2
    try clear hfz36_3
    try clear hfz36_4
    try clear hfz40_0
    try clear hfz40_1
    try clear hfz40_2
    try clear hfz40_3
    try clear hfz40_4
    try clear hfz42_0
    try clear hfz42_1
    try clear hfz42_2
    try clear hfz42_3
    try clear hfz42_4
    try clear hfz45_0
    try clear hfz45_1
    try clear hfz45_2
    try clear hfz45_3
    try clear hfz45_4
    try clear hfz47_0
    try clear hfz47_1
    try clear hfz47_2
    try clear hfz47_3
    try clear hfz47_4
    try clear hfz49_0
    try clear hfz49_1
    try clear hfz49_2
    try clear hfz49_3
    try clear hfz49_4
    try clear hfz50_0
    try clear hfz50_1
    try clear hfz50_2
    try clear hfz50_3
    try clear hfz50_4
    try clear hfz9_0
    try clear hfz9_1
    try clear hfz9_2
    try clear hfz9_3
    try clear hfz9_4
    try clear hx334_0
    try clear p334
    try clear q334
    obtain ⟨kq, x0_4, x7_4, x8_4, x334000_4, x334001_4, x334002_4, x334003_4, x336002_4, x336003_4, x336004_4, u336004, rfl, rfl, HA, HJ4, HO_0, HO_336004, BK333, BK335, HB⟩ := hcut
    cases kq with
    | zero => exact absurd (show none = some _ from HA.out) (by simp)
    | succ kj4 =>
     have H := HA.out
     clear HA
     simp only [stream_record.j0] at H
     by_cases c51 : x7_4 = 0
     ·rw [if_pos c51] at H
      have c51b0 : (x7_4 == 0) = true := beq_iff_eq.mpr c51
      have c51b1 : (x7_4 != 0) = false := bne_eq_false_iff_eq.mpr c51
      clear c51
      by_cases c52 : x8_4 = 0
      ·rw [if_pos c52] at H
       have c52b0 : (x8_4 == 0) = true := beq_iff_eq.mpr c52
       have c52b1 : (x8_4 != 0) = false := bne_eq_false_iff_eq.mpr c52
       clear c52
       replace H := Option.bind_eq_some_iff.mp H
       obtain ⟨t364, A530, H⟩ := H
       replace H : (some ((wrap64 (rd l0 0)), t337, x336002_4, x336003_4, x336004_4, x0_4, t364)) = some (r1, r2, r3, r4, r5, r6, r7) := H
       have A53 := Aside0.mk A530
       clear A530
       simp only [Option.some.injEq, Prod.mk.injEq] at H
       obtain ⟨rfl, rfl, rfl, rfl, rfl, rfl, rfl⟩ := H
       try go_wp2
       have n0_ := Aside0.mk (Kd.V_drew HO_0.out)
       have n1_ := Aside0.mk (Kd.R_drew HO_336004.out)
       have n2_ := Aside0.mk (blk_drew BK333.out)
       have n3_ := Aside0.mk (blk_drew BK335.out)
       have n4_ := Aside0.mk (below_drew1 HB.out)
       clear HO_0
       clear HO_336004
       clear BK333
       clear BK335
       clear HB
       have HO_0 := n0_
       have HO_336004 := n1_
       have BK333 := n2_
       have BK335 := n3_
       have HB := n4_
       clear n0_ n1_ n2_ n3_ n4_
       obtain ⟨Ao55, co55, eo55⟩ := Kd.R_slice HO_336004.out
       (first | subst eo55 | (injection eo55 with f1_ f2_ f3_; have f4_ := f1_.symm; have f5_ := f3_.symm; clear f1_ f2_ f3_; subst f4_; subst f5_))
       refine start_ (n := 15) (S := fun w' => w'.cell? ⟨gb335, 0, none⟩ = some (.int .i64 (wrap64 (rd l0 0))) ∧ w'.cell? ⟨gb335, 1, none⟩ = some (.string t337) ∧ w'.cell? ⟨gb335, 2, none⟩ = some (.string x336002_4) ∧ w'.cell? ⟨gb335, 3, none⟩ = some (.int .i64 x336003_4) ∧ w'.cell? ⟨gb335, 4, none⟩ = some (.slice Ao55 x336004_4.length co55)) (ds := []) (bl_ 15 0) q18_ rfl rfl ⟨(blk_cell BK335.out 0).trans rfl, (blk_cell BK335.out 1).trans rfl, (blk_cell BK335.out 2).trans rfl, (blk_cell BK335.out 3).trans rfl, (blk_cell BK335.out 4).trans rfl⟩ (fun hHeld => ?_); refine with_tabW stream_record.tab14 stream_record.bits14 (fun HT_ HW_ => ?_)
       generalize wc.drew = w54 at HO_0 HO_336004 BK333 BK335 HB hHeld ⊢
       refine pure_ (i := 1) (N := some 69) (v := ?_) (a' := ?_) (bl_ 15 2) rfl rfl (any_of HT_.out q18_) (fun _ _ _ h => h) (Or.inl ⟨by rfl, ?_⟩) ?_ ?_
       rotate_left
       ·intro w'
        go_simp
        with_reducible rfl
       rotate_left
       ·simp only [Act.put, List.setIfInBounds_toArray, List.set_cons_zero, List.set_cons_succ, i64_w, i32_w]
        rfl
       refine pure_ (i := 2) (N := some 70) (v := ?_) (a' := ?_) (bl_ 15 6) rfl rfl (any_of HT_.out q18_) (fun _ _ _ h => h) (Or.inl ⟨by rfl, ?_⟩) ?_ ?_
       rotate_left
       ·intro w'
        go_simp
        with_reducible rfl
       rotate_left
       ·simp only [Act.put, List.setIfInBounds_toArray, List.set_cons_zero, List.set_cons_succ, i64_w, i32_w]
        rfl
       refine pure_ (i := 3) (N := some 71) (v := ?_) (a' := ?_) (bl_ 15 14) rfl rfl (any_of HT_.out q18_) (fun _ _ _ h => h) (Or.inl ⟨by rfl, ?_⟩) ?_ ?_
       rotate_left
       ·intro w'
        go_simp
        with_reducible rfl
       rotate_left
       ·simp only [Act.put, List.setIfInBounds_toArray, List.set_cons_zero, List.set_cons_succ, i64_w, i32_w]
        rfl
       refine pure_ (i := 4) (N := some 72) (v := ?_) (a' := ?_) (bl_ 15 30) rfl rfl (any_of HT_.out q18_) (fun _ _ _ h => h) (Or.inl ⟨by rfl, ?_⟩) ?_ ?_
       rotate_left
       ·intro w'
        go_simp
        with_reducible rfl
       rotate_left
       ·simp only [Act.put, List.setIfInBounds_toArray, List.set_cons_zero, List.set_cons_succ, i64_w, i32_w]
        rfl
       refine pure_ (i := 5) (N := some 73) (v := ?_) (a' := ?_) (bl_ 15 62) rfl rfl (any_of HT_.out q18_) (fun _ _ _ h => h) (Or.inl ⟨by rfl, ?_⟩) ?_ ?_
       rotate_left
       ·intro w'
        go_simp
        with_reducible rfl
       rotate_left
       ·simp only [Act.put, List.setIfInBounds_toArray, List.set_cons_zero, List.set_cons_succ, i64_w, i32_w]
        rfl
       refine pure_ (i := 6) (N := some 74) (v := ?_) (a' := ?_) (bl_ 15 126) rfl rfl (any_of HT_.out q18_) (fun _ _ _ h => h) (Or.inl ⟨by rfl, ?_⟩) ?_ ?_
       rotate_left
       ·intro w'
        go_simp
        with_reducible rfl
       rotate_left
       ·simp only [Act.put, List.setIfInBounds_toArray, List.set_cons_zero, List.set_cons_succ, i64_w, i32_w]
        rfl
       refine pure_ (i := 7) (N := some 75) (v := ?_) (a' := ?_) (bl_ 15 254) rfl rfl (any_of HT_.out q18_) (fun _ _ _ h => h) (Or.inl ⟨by rfl, ?_⟩) ?_ ?_
       rotate_left
       ·intro w'
        go_simp
        with_reducible rfl
       rotate_left
       ·simp only [Act.put, List.setIfInBounds_toArray, List.set_cons_zero, List.set_cons_succ, i64_w, i32_w]
        rfl
       refine pure_ (i := 8) (N := some 76) (v := ?_) (a' := ?_) (bl_ 15 510) rfl rfl (any_of HT_.out q18_) (fun _ _ _ h => h) (Or.inl ⟨by rfl, ?_⟩) ?_ ?_
       rotate_left
       ·intro w'
        go_simp
        with_reducible rfl
       rotate_left
       ·simp only [Act.put, List.setIfInBounds_toArray, List.set_cons_zero, List.set_cons_succ, i64_w, i32_w]
        rfl
       refine take_ (i := 0) (N := some 68) (v := ?_) (a' := ?_) (bl_ 15 511) rfl rfl (take_ofW HT_.out HW_.out q18_) (fun _ _ _ h => h) (Or.inl ⟨by rfl, ?_⟩) hHeld ?_ ?_
       rotate_left
       ·rintro w' ⟨s0, s1, s2, s3, s4⟩
        go_simp
        with_reducible rfl
       rotate_left
       ·simp only [Act.put, List.setIfInBounds_toArray, List.set_cons_zero, List.set_cons_succ, i64_w, i32_w]
        rfl
       refine take_ (i := 9) (N := some 77) (v := ?_) (a' := ?_) (bl_ 15 1023) rfl rfl (take_ofW HT_.out HW_.out q18_) (fun _ _ _ h => h) (Or.inl ⟨by rfl, ?_⟩) hHeld ?_ ?_
       rotate_left
       ·rintro w' ⟨s0, s1, s2, s3, s4⟩
        go_simp
        with_reducible rfl
       rotate_left
       ·simp only [Act.put, List.setIfInBounds_toArray, List.set_cons_zero, List.set_cons_succ, i64_w, i32_w]
        rfl
       refine one_ (i := 10) (N := some 78) (bl_ 15 2047) rfl rfl (one_of HT_.out q18_) q81_ (fun K hK => ?_)
       refine goes_ Tryd.func17 q18_ rfl #[.agg #[.int .i64 (wrap64 (rd l0 0)), .string t337, .string x336002_4, .int .i64 x336003_4, .slice Ao55 x336004_4.length co55]] (by rfl) rfl rfl q1_ ?_
       with_reducible refine (stream_Good.calls kj4 (wrap64 (rd l0 0)) t337 x336002_4 x336003_4 _ _ x336004_4 t364 _ ?side1 ?side2 A53.out).mono ?_
       (case side1 => repeat (first | exact (Kd.R_reads' HO_336004.out).2.2 | (with_reducible refine Kd.C_alloc ?_ _) | (with_reducible refine Kd.C_drewN ?_ _) | (with_reducible refine Kd.C_drew ?_)))
       (case side2 => exact (Kd.R_reads' HO_336004.out).2.1)
       rintro e w56 ⟨rfl, hb⟩
       refine ⟨_, rfl, ?_⟩
       have n0_ := Aside0.mk (Kd.V_below q14_ hb)
       have n1_ := Aside0.mk (Kd.R_below (by (with_reducible repeat (first | apply Kd.R_alloc | apply Kd.R_drewN | apply Kd.R_drew)); exact HO_336004.out) hb)
       have n2_ := Aside0.mk (blk_below (g := gb333) (o := .cells #[.int .i64 x334000_4, .string x334001_4, .string x334002_4, .int .i64 x334003_4, .slice none 0 0] 37 (0, 0)) (by (with_reducible repeat (first | refine blk_drewN ?_ _ | refine blk_drew ?_ | refine blk_alloc ?_ _)); exact BK333.out) hb)
       have n3_ := Aside0.mk (blk_below (g := gb335) (o := .cells #[.int .i64 (wrap64 (rd l0 0)), .string t337, .string x336002_4, .int .i64 x336003_4, .slice Ao55 x336004_4.length co55] 37 (0, 0)) (by (with_reducible repeat (first | refine blk_drewN ?_ _ | refine blk_drew ?_ | refine blk_alloc ?_ _)); exact BK335.out) hb)
       have n4_ := Aside0.mk (below_step q8_ hb)
       clear HO_0
       clear HO_336004
       clear BK333
       clear BK335
       clear HB
       have HO_0 := n0_
       have HO_336004 := n1_
       have BK333 := n2_
       have BK335 := n3_
       have HB := n4_
       clear n0_ n1_ n2_ n3_ n4_
       (try clear hb)
       (try clear hb2)
       (try clear hk)
       (try clear hi)
       refine hK.out _ _ ⟨(blk_cell BK335.out 0).trans rfl, (blk_cell BK335.out 1).trans rfl, (blk_cell BK335.out 2).trans rfl, (blk_cell BK335.out 3).trans rfl, (blk_cell BK335.out 4).trans rfl⟩ (fun hHeld => ?_)
       clear hK K
       refine norm_ (a' := ?_) ?_ ?_
       rotate_left
       ·show Act.put _ (some 78) _ = _
        simp only [Act.put, List.setIfInBounds_toArray, List.set_cons_zero, List.set_cons_succ, i64_w, i32_w]
        rfl
       refine pure_ (i := 11) (N := some 79) (v := ?_) (a' := ?_) (bl_ 15 4095) rfl rfl (any_of HT_.out q18_) (fun _ _ _ h => h) (Or.inl ⟨by rfl, ?_⟩) ?_ ?_
       rotate_left
       ·intro w'
        go_simp
        with_reducible rfl
       rotate_left
       ·simp only [Act.put, List.setIfInBounds_toArray, List.set_cons_zero, List.set_cons_succ, i64_w, i32_w]
        rfl
       refine one_ (i := 12) (N := none) (bl_ 15 8191) rfl rfl (one_of HT_.out q18_) q81_ (fun K hK => ?_)
       have hs57 : w56.cell? ⟨gb333, 0, none⟩ = some (.int .i64 x334000_4) := (blk_cell BK333.out 0).trans rfl
       have hfs57 := blk_frozen BK333.out 0
       have hns57_1 := NB335_333.out
       have hms57_1 := NB333_335.out
       have hs58 : w56.cell? ⟨gb333, 1, none⟩ = some (.string x334001_4) := (blk_cell BK333.out 1).trans rfl
       have hfs58 := blk_frozen BK333.out 1
       have hns58_1 := NB335_333.out
       have hms58_1 := NB333_335.out
       have hs59 : w56.cell? ⟨gb333, 2, none⟩ = some (.string x334002_4) := (blk_cell BK333.out 2).trans rfl
       have hfs59 := blk_frozen BK333.out 2
       have hns59_1 := NB335_333.out
       have hms59_1 := NB333_335.out
       have hs60 : w56.cell? ⟨gb333, 3, none⟩ = some (.int .i64 x334003_4) := (blk_cell BK333.out 3).trans rfl
       have hfs60 := blk_frozen BK333.out 3
       have hns60_1 := NB335_333.out
       have hms60_1 := NB333_335.out
       have hs61 : w56.cell? ⟨gb333, 4, none⟩ = some (.slice none 0 0) := (blk_cell BK333.out 4).trans rfl
       have hfs61 := blk_frozen BK333.out 4
       have hns61_1 := NB335_333.out
       have hms61_1 := NB333_335.out
       refine skip_ (w1 := ?_) (by rfl) rfl ?_ ?_
       rotate_left
       ·go_simp
        rfl
       refine hK.out _ _ ⟨((cell_far (p := ⟨gb333, _, none⟩) NB335_333.out _).trans (((cell_far (p := ⟨gb333, _, none⟩) NB335_333.out _).trans (((cell_far (p := ⟨gb333, _, none⟩) NB335_333.out _).trans (((cell_far (p := ⟨gb333, _, none⟩) NB335_333.out _).trans (((cell_far (p := ⟨gb333, _, none⟩) NB335_333.out _).trans (hHeld.1)))))))))), ((cell_far (p := ⟨gb333, _, none⟩) NB335_333.out _).trans (((cell_far (p := ⟨gb333, _, none⟩) NB335_333.out _).trans (((cell_far (p := ⟨gb333, _, none⟩) NB335_333.out _).trans (((cell_far (p := ⟨gb333, _, none⟩) NB335_333.out _).trans (((cell_far (p := ⟨gb333, _, none⟩) NB335_333.out _).trans (hHeld.2.1)))))))))), ((cell_far (p := ⟨gb333, _, none⟩) NB335_333.out _).trans (((cell_far (p := ⟨gb333, _, none⟩) NB335_333.out _).trans (((cell_far (p := ⟨gb333, _, none⟩) NB335_333.out _).trans (((cell_far (p := ⟨gb333, _, none⟩) NB335_333.out _).trans (((cell_far (p := ⟨gb333, _, none⟩) NB335_333.out _).trans (hHeld.2.2.1)))))))))), ((cell_far (p := ⟨gb333, _, none⟩) NB335_333.out _).trans (((cell_far (p := ⟨gb333, _, none⟩) NB335_333.out _).trans (((cell_far (p := ⟨gb333, _, none⟩) NB335_333.out _).trans (((cell_far (p := ⟨gb333, _, none⟩) NB335_333.out _).trans (((cell_far (p := ⟨gb333, _, none⟩) NB335_333.out _).trans (hHeld.2.2.2.1)))))))))), ((cell_far (p := ⟨gb333, _, none⟩) NB335_333.out _).trans (((cell_far (p := ⟨gb333, _, none⟩) NB335_333.out _).trans (((cell_far (p := ⟨gb333, _, none⟩) NB335_333.out _).trans (((cell_far (p := ⟨gb333, _, none⟩) NB335_333.out _).trans (((cell_far (p := ⟨gb333, _, none⟩) NB335_333.out _).trans (hHeld.2.2.2.2))))))))))⟩ (fun hHeld => ?_)
       clear hK K
       refine pure_ (i := 13) (N := some 3) (v := ?_) (a' := ?_) (bl_ 15 16383) rfl rfl (any_of HT_.out q18_) (fun _ _ _ h => h) (Or.inl ⟨by rfl, ?_⟩) ?_ ?_
       rotate_left
       ·intro w'
        go_simp
        with_reducible rfl
       rotate_left
       ·simp only [Act.put, List.setIfInBounds_toArray, List.set_cons_zero, List.set_cons_succ, i64_w, i32_w]
        rfl
       refine pure_ (i := 14) (N := some 4) (v := ?_) (a' := ?_) (bl_ 15 32767) rfl rfl (any_of HT_.out q18_) (fun _ _ _ h => h) (Or.inl ⟨by rfl, ?_⟩) ?_ ?_
       rotate_left
       ·intro w'
        go_simp
        with_reducible rfl
       rotate_left
       ·simp only [Act.put, List.setIfInBounds_toArray, List.set_cons_zero, List.set_cons_succ, i64_w, i32_w]
        rfl
       refine done_ (done_of HT_.out q18_) ?_
       try go_wp2
       refine bodyPost_ret (results_ctt rfl _ _ gb333 37 #[.int .i64 (wrap64 (rd l0 0)), .string t337, .string x336002_4, .int .i64 x336003_4, .slice Ao55 x336004_4.length co55] (0, 0) _ rfl q21_ Tryd.underlying37 rfl q18_) rfl ?_
       exact ⟨_, _, by first | rfl | (simp [errW_none, errW_some] <;> rfl) | (simp [*, errW_none, errW_some] <;> rfl), by (with_reducible repeat (first | apply Kd.R_alloc | apply Kd.R_drewN | apply Kd.R_drew)); exact Kd.R_mono (Kd.R_far (p := ⟨gb333, 4, none⟩) (Kd.R_far (p := ⟨gb333, 3, none⟩) (Kd.R_far (p := ⟨gb333, 2, none⟩) (Kd.R_far (p := ⟨gb333, 1, none⟩) (Kd.R_far (p := ⟨gb333, 0, none⟩) (Kd.R_types HO_336004.out BK333.out q81_) (fun _ hk => hk.2) (.int .i64 (wrap64 (rd l0 0)))) (fun _ hk => hk.2) (.string t337)) (fun _ hk => hk.2) (.string x336002_4)) (fun _ hk => hk.2) (.int .i64 x336003_4)) (fun _ hk => hk.2) (.slice Ao55 x336004_4.length co55)) (fun _ hk => hk.1), by (with_reducible repeat (first | apply Kd.V_alloc | apply Kd.V_drewN | apply Kd.V_drew)); exact Kd.V_mono (Kd.V_far (p := ⟨gb333, 4, none⟩) (Kd.V_far (p := ⟨gb333, 3, none⟩) (Kd.V_far (p := ⟨gb333, 2, none⟩) (Kd.V_far (p := ⟨gb333, 1, none⟩) (Kd.V_far (p := ⟨gb333, 0, none⟩) (Kd.V_mono HO_0.out (fun k_ hk => (⟨hk, hk.2.2.1⟩ : _ ∧ k_ ≠ gb333))) (fun _ hk => hk.2) (.int .i64 (wrap64 (rd l0 0)))) (fun _ hk => hk.2) (.string t337)) (fun _ hk => hk.2) (.string x336002_4)) (fun _ hk => hk.2) (.int .i64 x336003_4)) (fun _ hk => hk.2) (.slice Ao55 x336004_4.length co55)) (fun _ hk => ⟨hk.1.1, hk.1.2.1⟩), by repeat (first | (with_reducible first | exact HB.out | apply below_alloc | apply pw_below_drewN | apply below_drew1 | refine below_set ?_ GE333.out | refine below_set ?_ GE335.out) | exact HB.out)⟩
      ·rw [if_neg c52] at H
       have c52b0 : (x8_4 == 0) = false := beq_eq_false_iff_ne.mpr c52
       have c52b1 : (x8_4 != 0) = true := bne_iff_ne.mpr c52
       simp only [Option.some.injEq, Prod.mk.injEq] at H
       obtain ⟨rfl, rfl, rfl, rfl, rfl, rfl, rfl⟩ := H
       try go_wp2
       have n0_ := Aside0.mk (Kd.V_drew HO_0.out)
       have n1_ := Aside0.mk (Kd.R_drew HO_336004.out)
       have n2_ := Aside0.mk (blk_drew BK333.out)
       have n3_ := Aside0.mk (blk_drew BK335.out)
       have n4_ := Aside0.mk (below_drew1 HB.out)
       clear HO_0
       clear HO_336004
       clear BK333
       clear BK335
       clear HB
       have HO_0 := n0_
       have HO_336004 := n1_
       have BK333 := n2_
       have BK335 := n3_
       have HB := n4_
       clear n0_ n1_ n2_ n3_ n4_
       obtain ⟨Ao67, co67, eo67⟩ := Kd.R_slice HO_336004.out
       (first | subst eo67 | (injection eo67 with f1_ f2_ f3_; have f4_ := f1_.symm; have f5_ := f3_.symm; clear f1_ f2_ f3_; subst f4_; subst f5_))
       refine start_ (n := 15) (S := fun w' => w'.cell? ⟨gb335, 0, none⟩ = some (.int .i64 (wrap64 (rd l0 0))) ∧ w'.cell? ⟨gb335, 1, none⟩ = some (.string t337) ∧ w'.cell? ⟨gb335, 2, none⟩ = some (.string x336002_4) ∧ w'.cell? ⟨gb335, 3, none⟩ = some (.int .i64 x336003_4) ∧ w'.cell? ⟨gb335, 4, none⟩ = some (.slice Ao67 x336004_4.length co67)) (ds := []) (bl_ 15 0) q18_ rfl rfl ⟨(blk_cell BK335.out 0).trans rfl, (blk_cell BK335.out 1).trans rfl, (blk_cell BK335.out 2).trans rfl, (blk_cell BK335.out 3).trans rfl, (blk_cell BK335.out 4).trans rfl⟩ (fun hHeld => ?_); refine with_tabW stream_record.tab14 stream_record.bits14 (fun HT_ HW_ => ?_)
       generalize wc.drew = w62 at HO_0 HO_336004 BK333 BK335 HB hHeld ⊢
       refine pure_ (i := 1) (N := some 69) (v := ?_) (a' := ?_) (bl_ 15 2) rfl rfl (any_of HT_.out q18_) (fun _ _ _ h => h) (Or.inl ⟨by rfl, ?_⟩) ?_ ?_
       rotate_left
       ·intro w'
        go_simp
        with_reducible rfl
       rotate_left
       ·simp only [Act.put, List.setIfInBounds_toArray, List.set_cons_zero, List.set_cons_succ, i64_w, i32_w]
        rfl
       refine pure_ (i := 2) (N := some 70) (v := ?_) (a' := ?_) (bl_ 15 6) rfl rfl (any_of HT_.out q18_) (fun _ _ _ h => h) (Or.inl ⟨by rfl, ?_⟩) ?_ ?_
       rotate_left
       ·intro w'
        go_simp
        with_reducible rfl
       rotate_left
       ·simp only [Act.put, List.setIfInBounds_toArray, List.set_cons_zero, List.set_cons_succ, i64_w, i32_w]
        rfl
       refine pure_ (i := 3) (N := some 71) (v := ?_) (a' := ?_) (bl_ 15 14) rfl rfl (any_of HT_.out q18_) (fun _ _ _ h => h) (Or.inl ⟨by rfl, ?_⟩) ?_ ?_
       rotate_left
       ·intro w'
        go_simp
        with_reducible rfl
       rotate_left
       ·simp only [Act.put, List.setIfInBounds_toArray, List.set_cons_zero, List.set_cons_succ, i64_w, i32_w]
        rfl
       refine pure_ (i := 4) (N := some 72) (v := ?_) (a' := ?_) (bl_ 15 30) rfl rfl (any_of HT_.out q18_) (fun _ _ _ h => h) (Or.inl ⟨by rfl, ?_⟩) ?_ ?_
       rotate_left
       ·intro w'
        go_simp
        with_reducible rfl
       rotate_left
       ·simp only [Act.put, List.setIfInBounds_toArray, List.set_cons_zero, List.set_cons_succ, i64_w, i32_w]
        rfl
       refine pure_ (i := 5) (N := some 73) (v := ?_) (a' := ?_) (bl_ 15 62) rfl rfl (any_of HT_.out q18_) (fun _ _ _ h => h) (Or.inl ⟨by rfl, ?_⟩) ?_ ?_
       rotate_left
       ·intro w'
        go_simp
        with_reducible rfl
       rotate_left
       ·simp only [Act.put, List.setIfInBounds_toArray, List.set_cons_zero, List.set_cons_succ, i64_w, i32_w]
        rfl
       refine pure_ (i := 6) (N := some 74) (v := ?_) (a' := ?_) (bl_ 15 126) rfl rfl (any_of HT_.out q18_) (fun _ _ _ h => h) (Or.inl ⟨by rfl, ?_⟩) ?_ ?_
       rotate_left
       ·intro w'
        go_simp
        with_reducible rfl
       rotate_left
       ·simp only [Act.put, List.setIfInBounds_toArray, List.set_cons_zero, List.set_cons_succ, i64_w, i32_w]
        rfl
       refine pure_ (i := 7) (N := some 75) (v := ?_) (a' := ?_) (bl_ 15 254) rfl rfl (any_of HT_.out q18_) (fun _ _ _ h => h) (Or.inl ⟨by rfl, ?_⟩) ?_ ?_
       rotate_left
       ·intro w'
        go_simp
        with_reducible rfl
       rotate_left
       ·simp only [Act.put, List.setIfInBounds_toArray, List.set_cons_zero, List.set_cons_succ, i64_w, i32_w]
        rfl
       refine pure_ (i := 8) (N := some 76) (v := ?_) (a' := ?_) (bl_ 15 510) rfl rfl (any_of HT_.out q18_) (fun _ _ _ h => h) (Or.inl ⟨by rfl, ?_⟩) ?_ ?_
       rotate_left
       ·intro w'
        go_simp
        with_reducible rfl
       rotate_left
       ·simp only [Act.put, List.setIfInBounds_toArray, List.set_cons_zero, List.set_cons_succ, i64_w, i32_w]
        rfl
       refine pure_ (i := 9) (N := some 77) (v := undef) (a' := ?_) (bl_ 15 1022) rfl rfl (any_of HT_.out q18_) (fun _ _ _ h => h) (Or.inr ⟨by rfl, rfl⟩) ?_ ?_
       rotate_left
       ·simp only [Act.put, List.setIfInBounds_toArray, List.set_cons_zero, List.set_cons_succ, i64_w, i32_w]
        rfl
       refine pure_ (i := 10) (N := some 78) (v := undef) (a' := ?_) (bl_ 15 2046) rfl rfl (any_of HT_.out q18_) (fun _ _ _ h => h) (Or.inr ⟨by rfl, rfl⟩) ?_ ?_
       rotate_left
       ·simp only [Act.put, List.setIfInBounds_toArray, List.set_cons_zero, List.set_cons_succ, i64_w, i32_w]
        rfl
       refine pure_ (i := 11) (N := some 79) (v := ?_) (a' := ?_) (bl_ 15 4094) rfl rfl (any_of HT_.out q18_) (fun _ _ _ h => h) (Or.inl ⟨by rfl, ?_⟩) ?_ ?_
       rotate_left
       ·intro w'
        go_simp
        with_reducible rfl
       rotate_left
       ·simp only [Act.put, List.setIfInBounds_toArray, List.set_cons_zero, List.set_cons_succ, i64_w, i32_w]
        rfl
       refine take_ (i := 0) (N := some 68) (v := ?_) (a' := ?_) (bl_ 15 4095) rfl rfl (take_ofW HT_.out HW_.out q18_) (fun _ _ _ h => h) (Or.inl ⟨by rfl, ?_⟩) hHeld ?_ ?_
       rotate_left
       ·rintro w' ⟨s0, s1, s2, s3, s4⟩
        go_simp
        with_reducible rfl
       rotate_left
       ·simp only [Act.put, List.setIfInBounds_toArray, List.set_cons_zero, List.set_cons_succ, i64_w, i32_w]
        rfl
       refine one_ (i := 12) (N := none) (bl_ 15 8191) rfl rfl (one_of HT_.out q18_) q81_ (fun K hK => ?_)
       have hs63 : w62.cell? ⟨gb333, 0, none⟩ = some (.int .i64 x334000_4) := (blk_cell BK333.out 0).trans rfl
       have hfs63 := blk_frozen BK333.out 0
       have hns63_1 := NB335_333.out
       have hms63_1 := NB333_335.out
       have hs64 : w62.cell? ⟨gb333, 1, none⟩ = some (.string x334001_4) := (blk_cell BK333.out 1).trans rfl
       have hfs64 := blk_frozen BK333.out 1
       have hns64_1 := NB335_333.out
       have hms64_1 := NB333_335.out
       have hs65 : w62.cell? ⟨gb333, 2, none⟩ = some (.string x334002_4) := (blk_cell BK333.out 2).trans rfl
       have hfs65 := blk_frozen BK333.out 2
       have hns65_1 := NB335_333.out
       have hms65_1 := NB333_335.out
       have hs66 : w62.cell? ⟨gb333, 3, none⟩ = some (.int .i64 x334003_4) := (blk_cell BK333.out 3).trans rfl
       have hfs66 := blk_frozen BK333.out 3
       have hns66_1 := NB335_333.out
       have hms66_1 := NB333_335.out
       have hs68 : w62.cell? ⟨gb333, 4, none⟩ = some (.slice none 0 0) := (blk_cell BK333.out 4).trans rfl
       have hfs68 := blk_frozen BK333.out 4
       have hns68_1 := NB335_333.out
       have hms68_1 := NB333_335.out
       refine skip_ (w1 := ?_) (by rfl) rfl ?_ ?_
       rotate_left
       ·go_simp
        rfl
       refine hK.out _ _ ⟨((cell_far (p := ⟨gb333, _, none⟩) NB335_333.out _).trans (((cell_far (p := ⟨gb333, _, none⟩) NB335_333.out _).trans (((cell_far (p := ⟨gb333, _, none⟩) NB335_333.out _).trans (((cell_far (p := ⟨gb333, _, none⟩) NB335_333.out _).trans (((cell_far (p := ⟨gb333, _, none⟩) NB335_333.out _).trans (hHeld.1)))))))))), ((cell_far (p := ⟨gb333, _, none⟩) NB335_333.out _).trans (((cell_far (p := ⟨gb333, _, none⟩) NB335_333.out _).trans (((cell_far (p := ⟨gb333, _, none⟩) NB335_333.out _).trans (((cell_far (p := ⟨gb333, _, none⟩) NB335_333.out _).trans (((cell_far (p := ⟨gb333, _, none⟩) NB335_333.out _).trans (hHeld.2.1)))))))))), ((cell_far (p := ⟨gb333, _, none⟩) NB335_333.out _).trans (((cell_far (p := ⟨gb333, _, none⟩) NB335_333.out _).trans (((cell_far (p := ⟨gb333, _, none⟩) NB335_333.out _).trans (((cell_far (p := ⟨gb333, _, none⟩) NB335_333.out _).trans (((cell_far (p := ⟨gb333, _, none⟩) NB335_333.out _).trans (hHeld.2.2.1)))))))))), ((cell_far (p := ⟨gb333, _, none⟩) NB335_333.out _).trans (((cell_far (p := ⟨gb333, _, none⟩) NB335_333.out _).trans (((cell_far (p := ⟨gb333, _, none⟩) NB335_333.out _).trans (((cell_far (p := ⟨gb333, _, none⟩) NB335_333.out _).trans (((cell_far (p := ⟨gb333, _, none⟩) NB335_333.out _).trans (hHeld.2.2.2.1)))))))))), ((cell_far (p := ⟨gb333, _, none⟩) NB335_333.out _).trans (((cell_far (p := ⟨gb333, _, none⟩) NB335_333.out _).trans (((cell_far (p := ⟨gb333, _, none⟩) NB335_333.out _).trans (((cell_far (p := ⟨gb333, _, none⟩) NB335_333.out _).trans (((cell_far (p := ⟨gb333, _, none⟩) NB335_333.out _).trans (hHeld.2.2.2.2))))))))))⟩ (fun hHeld => ?_)
       clear hK K
       refine pure_ (i := 13) (N := some 3) (v := ?_) (a' := ?_) (bl_ 15 16383) rfl rfl (any_of HT_.out q18_) (fun _ _ _ h => h) (Or.inl ⟨by rfl, ?_⟩) ?_ ?_
       rotate_left
       ·intro w'
        go_simp
        with_reducible rfl
       rotate_left
       ·simp only [Act.put, List.setIfInBounds_toArray, List.set_cons_zero, List.set_cons_succ, i64_w, i32_w]
        rfl
       refine pure_ (i := 14) (N := some 4) (v := ?_) (a' := ?_) (bl_ 15 32767) rfl rfl (any_of HT_.out q18_) (fun _ _ _ h => h) (Or.inl ⟨by rfl, ?_⟩) ?_ ?_
       rotate_left
       ·intro w'
        go_simp
        with_reducible rfl
       rotate_left
       ·simp only [Act.put, List.setIfInBounds_toArray, List.set_cons_zero, List.set_cons_succ, i64_w, i32_w]
        rfl
       refine done_ (done_of HT_.out q18_) ?_
       try go_wp2
       refine bodyPost_ret (results_ctt rfl _ _ gb333 37 #[.int .i64 (wrap64 (rd l0 0)), .string t337, .string x336002_4, .int .i64 x336003_4, .slice Ao67 x336004_4.length co67] (0, 0) _ rfl q21_ Tryd.underlying37 rfl q18_) rfl ?_
       exact ⟨_, _, by first | rfl | (simp [errW_none, errW_some] <;> rfl) | (simp [*, errW_none, errW_some] <;> rfl), by (with_reducible repeat (first | apply Kd.R_alloc | apply Kd.R_drewN | apply Kd.R_drew)); exact Kd.R_mono (Kd.R_far (p := ⟨gb333, 4, none⟩) (Kd.R_far (p := ⟨gb333, 3, none⟩) (Kd.R_far (p := ⟨gb333, 2, none⟩) (Kd.R_far (p := ⟨gb333, 1, none⟩) (Kd.R_far (p := ⟨gb333, 0, none⟩) (Kd.R_types HO_336004.out BK333.out q81_) (fun _ hk => hk.2) (.int .i64 (wrap64 (rd l0 0)))) (fun _ hk => hk.2) (.string t337)) (fun _ hk => hk.2) (.string x336002_4)) (fun _ hk => hk.2) (.int .i64 x336003_4)) (fun _ hk => hk.2) (.slice Ao67 x336004_4.length co67)) (fun _ hk => hk.1), by (with_reducible repeat (first | apply Kd.V_alloc | apply Kd.V_drewN | apply Kd.V_drew)); exact Kd.V_mono (Kd.V_far (p := ⟨gb333, 4, none⟩) (Kd.V_far (p := ⟨gb333, 3, none⟩) (Kd.V_far (p := ⟨gb333, 2, none⟩) (Kd.V_far (p := ⟨gb333, 1, none⟩) (Kd.V_far (p := ⟨gb333, 0, none⟩) (Kd.V_mono HO_0.out (fun k_ hk => (⟨hk, hk.2.2.1⟩ : _ ∧ k_ ≠ gb333))) (fun _ hk => hk.2) (.int .i64 (wrap64 (rd l0 0)))) (fun _ hk => hk.2) (.string t337)) (fun _ hk => hk.2) (.string x336002_4)) (fun _ hk => hk.2) (.int .i64 x336003_4)) (fun _ hk => hk.2) (.slice Ao67 x336004_4.length co67)) (fun _ hk => ⟨hk.1.1, hk.1.2.1⟩), by repeat (first | (with_reducible first | exact HB.out | apply below_alloc | apply pw_below_drewN | apply below_drew1 | refine below_set ?_ GE333.out | refine below_set ?_ GE335.out) | exact HB.out)⟩
     ·rw [if_neg c51] at H
      have c51b0 : (x7_4 == 0) = false := beq_eq_false_iff_ne.mpr c51
      have c51b1 : (x7_4 != 0) = true := bne_iff_ne.mpr c51
      simp only [Option.some.injEq, Prod.mk.injEq] at H
      obtain ⟨rfl, rfl, rfl, rfl, rfl, rfl, rfl⟩ := H
      try go_wp2
      have n0_ := Aside0.mk (Kd.V_drew HO_0.out)
      have n1_ := Aside0.mk (Kd.R_drew HO_336004.out)
      have n2_ := Aside0.mk (blk_drew BK333.out)
      have n3_ := Aside0.mk (blk_drew BK335.out)
      have n4_ := Aside0.mk (below_drew1 HB.out)
      clear HO_0
      clear HO_336004
      clear BK333
      clear BK335
      clear HB
      have HO_0 := n0_
      have HO_336004 := n1_
      have BK333 := n2_
      have BK335 := n3_
      have HB := n4_
      clear n0_ n1_ n2_ n3_ n4_
      obtain ⟨Ao74, co74, eo74⟩ := Kd.R_slice HO_336004.out
      (first | subst eo74 | (injection eo74 with f1_ f2_ f3_; have f4_ := f1_.symm; have f5_ := f3_.symm; clear f1_ f2_ f3_; subst f4_; subst f5_))
      refine start_ (n := 15) (S := fun w' => w'.cell? ⟨gb335, 0, none⟩ = some (.int .i64 (wrap64 (rd l0 0))) ∧ w'.cell? ⟨gb335, 1, none⟩ = some (.string t337) ∧ w'.cell? ⟨gb335, 2, none⟩ = some (.string x336002_4) ∧ w'.cell? ⟨gb335, 3, none⟩ = some (.int .i64 x336003_4) ∧ w'.cell? ⟨gb335, 4, none⟩ = some (.slice Ao74 x336004_4.length co74)) (ds := []) (bl_ 15 0) q18_ rfl rfl ⟨(blk_cell BK335.out 0).trans rfl, (blk_cell BK335.out 1).trans rfl, (blk_cell BK335.out 2).trans rfl, (blk_cell BK335.out 3).trans rfl, (blk_cell BK335.out 4).trans rfl⟩ (fun hHeld => ?_); refine with_tabW stream_record.tab14 stream_record.bits14 (fun HT_ HW_ => ?_)
      generalize wc.drew = w69 at HO_0 HO_336004 BK333 BK335 HB hHeld ⊢
      refine pure_ (i := 1) (N := some 69) (v := ?_) (a' := ?_) (bl_ 15 2) rfl rfl (any_of HT_.out q18_) (fun _ _ _ h => h) (Or.inl ⟨by rfl, ?_⟩) ?_ ?_
      rotate_left
      ·intro w'
       go_simp
       with_reducible rfl
      rotate_left
      ·simp only [Act.put, List.setIfInBounds_toArray, List.set_cons_zero, List.set_cons_succ, i64_w, i32_w]
       rfl
      refine pure_ (i := 2) (N := some 70) (v := ?_) (a' := ?_) (bl_ 15 6) rfl rfl (any_of HT_.out q18_) (fun _ _ _ h => h) (Or.inl ⟨by rfl, ?_⟩) ?_ ?_
      rotate_left
      ·intro w'
       go_simp
       with_reducible rfl
      rotate_left
      ·simp only [Act.put, List.setIfInBounds_toArray, List.set_cons_zero, List.set_cons_succ, i64_w, i32_w]
       rfl
      refine pure_ (i := 3) (N := some 71) (v := ?_) (a' := ?_) (bl_ 15 14) rfl rfl (any_of HT_.out q18_) (fun _ _ _ h => h) (Or.inl ⟨by rfl, ?_⟩) ?_ ?_
      rotate_left
      ·intro w'
       go_simp
       with_reducible rfl
      rotate_left
      ·simp only [Act.put, List.setIfInBounds_toArray, List.set_cons_zero, List.set_cons_succ, i64_w, i32_w]
       rfl
      refine pure_ (i := 4) (N := some 72) (v := ?_) (a' := ?_) (bl_ 15 30) rfl rfl (any_of HT_.out q18_) (fun _ _ _ h => h) (Or.inl ⟨by rfl, ?_⟩) ?_ ?_
      rotate_left
      ·intro w'
       go_simp
       with_reducible rfl
      rotate_left
      ·simp only [Act.put, List.setIfInBounds_toArray, List.set_cons_zero, List.set_cons_succ, i64_w, i32_w]
       rfl
      refine pure_ (i := 5) (N := some 73) (v := undef) (a' := ?_) (bl_ 15 62) rfl rfl (any_of HT_.out q18_) (fun _ _ _ h => h) (Or.inr ⟨by rfl, rfl⟩) ?_ ?_
      rotate_left
      ·simp only [Act.put, List.setIfInBounds_toArray, List.set_cons_zero, List.set_cons_succ, i64_w, i32_w]
       rfl
      refine pure_ (i := 6) (N := some 74) (v := undef) (a' := ?_) (bl_ 15 126) rfl rfl (any_of HT_.out q18_) (fun _ _ _ h => h) (Or.inr ⟨by rfl, rfl⟩) ?_ ?_
      rotate_left
      ·simp only [Act.put, List.setIfInBounds_toArray, List.set_cons_zero, List.set_cons_succ, i64_w, i32_w]
       rfl
      refine pure_ (i := 7) (N := some 75) (v := ?_) (a' := ?_) (bl_ 15 254) rfl rfl (any_of HT_.out q18_) (fun _ _ _ h => h) (Or.inl ⟨by rfl, ?_⟩) ?_ ?_
      rotate_left
      ·intro w'
       go_simp
       with_reducible rfl
      rotate_left
      ·simp only [Act.put, List.setIfInBounds_toArray, List.set_cons_zero, List.set_cons_succ, i64_w, i32_w]
       rfl
      refine pure_ (i := 8) (N := some 76) (v := ?_) (a' := ?_) (bl_ 15 510) rfl rfl (any_of HT_.out q18_) (fun _ _ _ h => h) (Or.inl ⟨by rfl, ?_⟩) ?_ ?_
      rotate_left
      ·intro w'
       go_simp
       with_reducible rfl
      rotate_left
      ·simp only [Act.put, List.setIfInBounds_toArray, List.set_cons_zero, List.set_cons_succ, i64_w, i32_w]
       rfl
      refine pure_ (i := 9) (N := some 77) (v := undef) (a' := ?_) (bl_ 15 1022) rfl rfl (any_of HT_.out q18_) (fun _ _ _ h => h) (Or.inr ⟨by rfl, rfl⟩) ?_ ?_
      rotate_left
      ·simp only [Act.put, List.setIfInBounds_toArray, List.set_cons_zero, List.set_cons_succ, i64_w, i32_w]
       rfl
      refine pure_ (i := 10) (N := some 78) (v := undef) (a' := ?_) (bl_ 15 2046) rfl rfl (any_of HT_.out q18_) (fun _ _ _ h => h) (Or.inr ⟨by rfl, rfl⟩) ?_ ?_
      rotate_left
      ·simp only [Act.put, List.setIfInBounds_toArray, List.set_cons_zero, List.set_cons_succ, i64_w, i32_w]
       rfl
      refine pure_ (i := 11) (N := some 79) (v := ?_) (a' := ?_) (bl_ 15 4094) rfl rfl (any_of HT_.out q18_) (fun _ _ _ h => h) (Or.inl ⟨by rfl, ?_⟩) ?_ ?_
      rotate_left
      ·intro w'
       go_simp
       with_reducible rfl
      rotate_left
      ·simp only [Act.put, List.setIfInBounds_toArray, List.set_cons_zero, List.set_cons_succ, i64_w, i32_w]
       rfl
      refine take_ (i := 0) (N := some 68) (v := ?_) (a' := ?_) (bl_ 15 4095) rfl rfl (take_ofW HT_.out HW_.out q18_) (fun _ _ _ h => h) (Or.inl ⟨by rfl, ?_⟩) hHeld ?_ ?_
      rotate_left
      ·rintro w' ⟨s0, s1, s2, s3, s4⟩
       go_simp
       with_reducible rfl
      rotate_left
      ·simp only [Act.put, List.setIfInBounds_toArray, List.set_cons_zero, List.set_cons_succ, i64_w, i32_w]
       rfl
      refine one_ (i := 12) (N := none) (bl_ 15 8191) rfl rfl (one_of HT_.out q18_) q81_ (fun K hK => ?_)
      have hs70 : w69.cell? ⟨gb333, 0, none⟩ = some (.int .i64 x334000_4) := (blk_cell BK333.out 0).trans rfl
      have hfs70 := blk_frozen BK333.out 0
      have hns70_1 := NB335_333.out
      have hms70_1 := NB333_335.out
      have hs71 : w69.cell? ⟨gb333, 1, none⟩ = some (.string x334001_4) := (blk_cell BK333.out 1).trans rfl
      have hfs71 := blk_frozen BK333.out 1
      have hns71_1 := NB335_333.out
      have hms71_1 := NB333_335.out
      have hs72 : w69.cell? ⟨gb333, 2, none⟩ = some (.string x334002_4) := (blk_cell BK333.out 2).trans rfl
      have hfs72 := blk_frozen BK333.out 2
      have hns72_1 := NB335_333.out
      have hms72_1 := NB333_335.out
      have hs73 : w69.cell? ⟨gb333, 3, none⟩ = some (.int .i64 x334003_4) := (blk_cell BK333.out 3).trans rfl
      have hfs73 := blk_frozen BK333.out 3
      have hns73_1 := NB335_333.out
      have hms73_1 := NB333_335.out
      have hs75 : w69.cell? ⟨gb333, 4, none⟩ = some (.slice none 0 0) := (blk_cell BK333.out 4).trans rfl
      have hfs75 := blk_frozen BK333.out 4
      have hns75_1 := NB335_333.out
      have hms75_1 := NB333_335.out
      refine skip_ (w1 := ?_) (by rfl) rfl ?_ ?_
      rotate_left
      ·go_simp
       rfl
      refine hK.out _ _ ⟨((cell_far (p := ⟨gb333, _, none⟩) NB335_333.out _).trans (((cell_far (p := ⟨gb333, _, none⟩) NB335_333.out _).trans (((cell_far (p := ⟨gb333, _, none⟩) NB335_333.out _).trans (((cell_far (p := ⟨gb333, _, none⟩) NB335_333.out _).trans (((cell_far (p := ⟨gb333, _, none⟩) NB335_333.out _).trans (hHeld.1)))))))))), ((cell_far (p := ⟨gb333, _, none⟩) NB335_333.out _).trans (((cell_far (p := ⟨gb333, _, none⟩) NB335_333.out _).trans (((cell_far (p := ⟨gb333, _, none⟩) NB335_333.out _).trans (((cell_far (p := ⟨gb333, _, none⟩) NB335_333.out _).trans (((cell_far (p := ⟨gb333, _, none⟩) NB335_333.out _).trans (hHeld.2.1)))))))))), ((cell_far (p := ⟨gb333, _, none⟩) NB335_333.out _).trans (((cell_far (p := ⟨gb333, _, none⟩) NB335_333.out _).trans (((cell_far (p := ⟨gb333, _, none⟩) NB335_333.out _).trans (((cell_far (p := ⟨gb333, _, none⟩) NB335_333.out _).trans (((cell_far (p := ⟨gb333, _, none⟩) NB335_333.out _).trans (hHeld.2.2.1)))))))))), ((cell_far (p := ⟨gb333, _, none⟩) NB335_333.out _).trans (((cell_far (p := ⟨gb333, _, none⟩) NB335_333.out _).trans (((cell_far (p := ⟨gb333, _, none⟩) NB335_333.out _).trans (((cell_far (p := ⟨gb333, _, none⟩) NB335_333.out _).trans (((cell_far (p := ⟨gb333, _, none⟩) NB335_333.out _).trans (hHeld.2.2.2.1)))))))))), ((cell_far (p := ⟨gb333, _, none⟩) NB335_333.out _).trans (((cell_far (p := ⟨gb333, _, none⟩) NB335_333.out _).trans (((cell_far (p := ⟨gb333, _, none⟩) NB335_333.out _).trans (((cell_far (p := ⟨gb333, _, none⟩) NB335_333.out _).trans (((cell_far (p := ⟨gb333, _, none⟩) NB335_333.out _).trans (hHeld.2.2.2.2))))))))))⟩ (fun hHeld => ?_)
      clear hK K
      refine pure_ (i := 13) (N := some 3) (v := ?_) (a' := ?_) (bl_ 15 16383) rfl rfl (any_of HT_.out q18_) (fun _ _ _ h => h) (Or.inl ⟨by rfl, ?_⟩) ?_ ?_
      rotate_left
      ·intro w'
       go_simp
       with_reducible rfl
      rotate_left
      ·simp only [Act.put, List.setIfInBounds_toArray, List.set_cons_zero, List.set_cons_succ, i64_w, i32_w]
       rfl
      refine pure_ (i := 14) (N := some 4) (v := ?_) (a' := ?_) (bl_ 15 32767) rfl rfl (any_of HT_.out q18_) (fun _ _ _ h => h) (Or.inl ⟨by rfl, ?_⟩) ?_ ?_
      rotate_left
      ·intro w'
       go_simp
       with_reducible rfl
      rotate_left
      ·simp only [Act.put, List.setIfInBounds_toArray, List.set_cons_zero, List.set_cons_succ, i64_w, i32_w]
       rfl
      refine done_ (done_of HT_.out q18_) ?_
      try go_wp2
      refine bodyPost_ret (results_ctt rfl _ _ gb333 37 #[.int .i64 (wrap64 (rd l0 0)), .string t337, .string x336002_4, .int .i64 x336003_4, .slice Ao74 x336004_4.length co74] (0, 0) _ rfl q21_ Tryd.underlying37 rfl q18_) rfl ?_
      exact ⟨_, _, by first | rfl | (simp [errW_none, errW_some] <;> rfl) | (simp [*, errW_none, errW_some] <;> rfl), by (with_reducible repeat (first | apply Kd.R_alloc | apply Kd.R_drewN | apply Kd.R_drew)); exact Kd.R_mono (Kd.R_far (p := ⟨gb333, 4, none⟩) (Kd.R_far (p := ⟨gb333, 3, none⟩) (Kd.R_far (p := ⟨gb333, 2, none⟩) (Kd.R_far (p := ⟨gb333, 1, none⟩) (Kd.R_far (p := ⟨gb333, 0, none⟩) (Kd.R_types HO_336004.out BK333.out q81_) (fun _ hk => hk.2) (.int .i64 (wrap64 (rd l0 0)))) (fun _ hk => hk.2) (.string t337)) (fun _ hk => hk.2) (.string x336002_4)) (fun _ hk => hk.2) (.int .i64 x336003_4)) (fun _ hk => hk.2) (.slice Ao74 x336004_4.length co74)) (fun _ hk => hk.1), by (with_reducible repeat (first | apply Kd.V_alloc | apply Kd.V_drewN | apply Kd.V_drew)); exact Kd.V_mono (Kd.V_far (p := ⟨gb333, 4, none⟩) (Kd.V_far (p := ⟨gb333, 3, none⟩) (Kd.V_far (p := ⟨gb333, 2, none⟩) (Kd.V_far (p := ⟨gb333, 1, none⟩) (Kd.V_far (p := ⟨gb333, 0, none⟩) (Kd.V_mono HO_0.out (fun k_ hk => (⟨hk, hk.2.2.1⟩ : _ ∧ k_ ≠ gb333))) (fun _ hk => hk.2) (.int .i64 (wrap64 (rd l0 0)))) (fun _ hk => hk.2) (.string t337)) (fun _ hk => hk.2) (.string x336002_4)) (fun _ hk => hk.2) (.int .i64 x336003_4)) (fun _ hk => hk.2) (.slice Ao74 x336004_4.length co74)) (fun _ hk => ⟨hk.1.1, hk.1.2.1⟩), by repeat (first | (with_reducible first | exact HB.out | apply below_alloc | apply pw_below_drewN | apply below_drew1 | refine below_set ?_ GE333.out | refine below_set ?_ GE335.out) | exact HB.out)⟩
  ·rw [if_neg c3] at H
   exact absurd H (by simp)
 ·rw [if_neg c2] at H
  exact absurd H (by simp)
end Go.Proofs.YtgklipfeheohkaaDoor.P
