/- Functions and contracts, written by a program (mkprint.py, a wrapper of ours around the print); texts between GIVEN marks are ours. -/
import Derived.Test.YtpahlfjfadammaaPx0
import Derived.Test.YtpahlfjfadammaaPx1
import Derived.Test.YtpahlfjfadammaaPx2
import Derived.Test.YtpahlfjfadammaaPx3
import Derived.Test.YtpahlfjfadammaaPx4
import Derived.Test.YtpahlfjfadammaaPx5
import Derived.Test.YtpahlfjfadammaaPx6
import Derived.Test.YtpahlfjfadammaaPx7
namespace Go.Proofs.Ytpahlfjfadammaa.P
open Go.RowKit Go.Proofs.YtpahlfjfadammaaW.PrintWords Go.Proofs.YtpahlfjfadammaaW.PrintLast Go.Proofs.YtpahlfjfadammaaW.PrintMore
attribute [local go_sem] max2_int min2_int max_two min_two max_three min_three max_four min_four   -- for this text's walks alone
set_option linter.unusedVariables false
set_option linter.unusedSimpArgs false

attribute [local go_sem high] eqA23 eqA25
/-! ### cambiumlaw13_InodeBack: function 6 -/
mutual
def cambiumlaw13_InodeBack.j0 : Nat → Bool → ByteArray → Int → Int → List Int → Int → Option (Bool)
  | 0, _, _, _, _, _, _ => none
  | k + 1, x7, x250000, x250001, x250002, x251000, x251001 => (inode_PutEntry.f k x250000 x250001 x250002).bind fun bt264 => (if bt264.2 = 0 then ((inode_TakeEntry.f k bt264.1).bind fun bt268 => (if (!(bt268.1.toList == x250000.toList) || (!(bt268.2.1 == x250001) || (!(bt268.2.2.1 == x250002)))) = true then (some false) else (if bt268.2.2.2 = 0 then (if (bt264.1.length : Int) > 28 then (some false) else (cambiumlaw13_InodeBack.j1 k x7 x251000 x251001)) else (some false)))) else (cambiumlaw13_InodeBack.j1 k x7 x251000 x251001))
def cambiumlaw13_InodeBack.j1 : Nat → Bool → List Int → Int → Option (Bool)
  | 0, _, _, _ => none
  | k + 1, x7, x251000, x251001 => (inode_PutExtent.f k x251000 x251001).bind fun bt273 => (if bt273.2 = 0 then ((inode_TakeExtent.f k bt273.1).bind fun bt277 => (if bt277.2.1 = x251001 then (if (strOfNums bt277.1).toList = (strOfNums x251000).toList then (if bt277.2.2 = 0 then (if (bt273.1.length : Int) > 28 then (some false) else (some x7)) else (some false)) else (some false)) else (some false))) else (some x7))
end
def cambiumlaw13_InodeBack.f (k : Nat) (a0_0 : Int) (a0_1 : Int) (a0_2 : Int) (a1_0 : ByteArray) (a1_1 : Int) (a1_2 : Int) (l2_0 : List Int) (a2_1 : Int) : Option (Bool) := (cambiumlaw13_shown.f k).bind fun t251 => ((cambiumlaw13_few.f l2_0).bind fun t252 => ((inode_Put.f k a0_0 a0_1 a0_2).bind fun bt255 => (if bt255.2 = 0 then ((inode_Take.f k bt255.1).bind fun bt259 => (if (!(bt259.1 == a0_0) || (!(bt259.2.1 == a0_1) || (!(bt259.2.2.1 == a0_2)))) = true then (some false) else (if bt259.2.2.2 = 0 then (if (bt255.1.length : Int) = 7 then (cambiumlaw13_InodeBack.j0 k t251 a1_0 a1_1 a1_2 t252 a2_1) else (some false)) else (some false)))) else (cambiumlaw13_InodeBack.j0 k t251 a1_0 a1_1 a1_2 t252 a2_1))))
theorem cambiumlaw13_InodeBack.mono_l : ∀ k, (∀ y0 y1 y2 y3 y4 y5, LeO (cambiumlaw13_InodeBack.j0 k y0 y1 y2 y3 y4 y5) (cambiumlaw13_InodeBack.j0 (k + 1) y0 y1 y2 y3 y4 y5)) ∧ (∀ y0 y1 y2, LeO (cambiumlaw13_InodeBack.j1 k y0 y1 y2) (cambiumlaw13_InodeBack.j1 (k + 1) y0 y1 y2))
  | 0 => ⟨fun _ _ _ _ _ _ r h => by simp [cambiumlaw13_InodeBack.j0] at h, fun _ _ _ r h => by simp [cambiumlaw13_InodeBack.j1] at h⟩
  | k + 1 => by
    obtain ⟨ih0, ih1⟩ := cambiumlaw13_InodeBack.mono_l k
    refine ⟨?_, ?_⟩
    · intro y0 y1 y2 y3 y4 y5
      unfold cambiumlaw13_InodeBack.j0
      repeat' first
      | (with_reducible exact ih0 _ _ _ _ _ _)
      | (with_reducible exact ih1 _ _ _)
      | (with_reducible exact cambiumlaw13_shown.mono _)
      | (with_reducible exact inode_Put.mono _ _ _ _)
      | (with_reducible exact inode_PutEntry.mono _ _ _ _)
      | (with_reducible exact inode_PutExtent.mono _ _ _)
      | (with_reducible exact inode_Take.mono _ _)
      | (with_reducible exact inode_TakeEntry.mono _ _)
      | (with_reducible exact inode_TakeExtent.mono _ _)
      | (with_reducible exact LeO.refl _)
      | (with_reducible exact LeO.none _)
      | (with_reducible refine LeO.ite ?_ ?_)
      | (with_reducible refine LeO.bind ?_ (fun _ => ?_))
      | exact ih0 _ _ _ _ _ _
      | exact ih1 _ _ _
      | exact cambiumlaw13_shown.mono _
      | exact inode_Put.mono _ _ _ _
      | exact inode_PutEntry.mono _ _ _ _
      | exact inode_PutExtent.mono _ _ _
      | exact inode_Take.mono _ _
      | exact inode_TakeEntry.mono _ _
      | exact inode_TakeExtent.mono _ _
      | exact LeO.none _
      | refine LeO.ite ?_ ?_
      | refine LeO.bind ?_ (fun _ => ?_)
    · intro y0 y1 y2
      unfold cambiumlaw13_InodeBack.j1
      repeat' first
      | (with_reducible exact ih0 _ _ _ _ _ _)
      | (with_reducible exact ih1 _ _ _)
      | (with_reducible exact cambiumlaw13_shown.mono _)
      | (with_reducible exact inode_Put.mono _ _ _ _)
      | (with_reducible exact inode_PutEntry.mono _ _ _ _)
      | (with_reducible exact inode_PutExtent.mono _ _ _)
      | (with_reducible exact inode_Take.mono _ _)
      | (with_reducible exact inode_TakeEntry.mono _ _)
      | (with_reducible exact inode_TakeExtent.mono _ _)
      | (with_reducible exact LeO.refl _)
      | (with_reducible exact LeO.none _)
      | (with_reducible refine LeO.ite ?_ ?_)
      | (with_reducible refine LeO.bind ?_ (fun _ => ?_))
      | exact ih0 _ _ _ _ _ _
      | exact ih1 _ _ _
      | exact cambiumlaw13_shown.mono _
      | exact inode_Put.mono _ _ _ _
      | exact inode_PutEntry.mono _ _ _ _
      | exact inode_PutExtent.mono _ _ _
      | exact inode_Take.mono _ _
      | exact inode_TakeEntry.mono _ _
      | exact inode_TakeExtent.mono _ _
      | exact LeO.none _
      | refine LeO.ite ?_ ?_
      | refine LeO.bind ?_ (fun _ => ?_)
theorem cambiumlaw13_InodeBack.mono : ∀ a0 a1 a2 a3 a4 a5 a6 a7 k, LeO (cambiumlaw13_InodeBack.f k a0 a1 a2 a3 a4 a5 a6 a7) (cambiumlaw13_InodeBack.f (k + 1) a0 a1 a2 a3 a4 a5 a6 a7) := by
  intro a0 a1 a2 a3 a4 a5 a6 a7 k
  obtain ⟨ih0, ih1⟩ := cambiumlaw13_InodeBack.mono_l k
  unfold cambiumlaw13_InodeBack.f
  repeat' first
      | (with_reducible exact ih0 _ _ _ _ _ _)
      | (with_reducible exact ih1 _ _ _)
      | (with_reducible exact cambiumlaw13_shown.mono _)
      | (with_reducible exact inode_Put.mono _ _ _ _)
      | (with_reducible exact inode_PutEntry.mono _ _ _ _)
      | (with_reducible exact inode_PutExtent.mono _ _ _)
      | (with_reducible exact inode_Take.mono _ _)
      | (with_reducible exact inode_TakeEntry.mono _ _)
      | (with_reducible exact inode_TakeExtent.mono _ _)
      | (with_reducible exact LeO.refl _)
      | (with_reducible exact LeO.none _)
      | (with_reducible refine LeO.ite ?_ ?_)
      | (with_reducible refine LeO.bind ?_ (fun _ => ?_))
      | exact ih0 _ _ _ _ _ _
      | exact ih1 _ _ _
      | exact cambiumlaw13_shown.mono _
      | exact inode_Put.mono _ _ _ _
      | exact inode_PutEntry.mono _ _ _ _
      | exact inode_PutExtent.mono _ _ _
      | exact inode_Take.mono _ _
      | exact inode_TakeEntry.mono _ _
      | exact inode_TakeExtent.mono _ _
      | exact LeO.none _
      | refine LeO.ite ?_ ?_
      | refine LeO.bind ?_ (fun _ => ?_)
set_option maxHeartbeats 8000000 in
set_option maxRecDepth 100000 in
theorem cambiumlaw13_InodeBack.calls (k : Nat) (a0_0 : Int) (a0_1 : Int) (a0_2 : Int) (a1_0 : ByteArray) (a1_1 : Int) (a1_2 : Int) (A2_0 : Option Addr) (c2_0 : Nat) (l2_0 : List Int) (a2_1 : Int) (r : Bool) (w : World) (hr2_0 : Kd.C (Kd.int .u8) w A2_0 l2_0.length l2_0) (hc2_0 : l2_0.length ≤ c2_0) (hr_ : Aside0 (r = true)) (h : cambiumlaw13_InodeBack.f k a0_0 a0_1 a0_2 a1_0 a1_1 a1_2 l2_0 a2_1 = some r) :
    Calls Try.prog 6 #[.agg #[.int .i64 a0_0, .int .i64 a0_1, .int .i64 a0_2], .agg #[.string a1_0, .int .i64 a1_1, .int .i64 a1_2], .agg #[.slice A2_0 l2_0.length c2_0, .int .i64 a2_1]] w fun e w' => e = .returned (.bool r) ∧ Below w.heap.size w w' := by
  have hu23 := Try.underlying23
  have hu25 := Try.underlying25
  have hu28 := Try.underlying28
  have HR2_0 := Aside0.mk hr2_0
  have HC2_0 := Aside0.mk hc2_0
  clear hr2_0 hc2_0
  have HB := Aside0.mk (Below.refl w.heap.size w)
  have H : ((cambiumlaw13_shown.f k).bind fun t251 => ((cambiumlaw13_few.f l2_0).bind fun t252 => ((inode_Put.f k a0_0 a0_1 a0_2).bind fun bt255 => (if bt255.2 = 0 then ((inode_Take.f k bt255.1).bind fun bt259 => (if (!(bt259.1 == a0_0) || (!(bt259.2.1 == a0_1) || (!(bt259.2.2.1 == a0_2)))) = true then (some false) else (if bt259.2.2.2 = 0 then (if (bt255.1.length : Int) = 7 then (cambiumlaw13_InodeBack.j0 k t251 a1_0 a1_1 a1_2 t252 a2_1) else (some false)) else (some false)))) else (cambiumlaw13_InodeBack.j0 k t251 a1_0 a1_1 a1_2 t252 a2_1))))) = some r := h
  clear h
  replace H := Option.bind_eq_some_iff.mp H
  obtain ⟨t251, A40, H⟩ := H
  replace H : ((cambiumlaw13_few.f l2_0).bind fun t252 => ((inode_Put.f k a0_0 a0_1 a0_2).bind fun bt255 => (if bt255.2 = 0 then ((inode_Take.f k bt255.1).bind fun bt259 => (if (!(bt259.1 == a0_0) || (!(bt259.2.1 == a0_1) || (!(bt259.2.2.1 == a0_2)))) = true then (some false) else (if bt259.2.2.2 = 0 then (if (bt255.1.length : Int) = 7 then (cambiumlaw13_InodeBack.j0 k t251 a1_0 a1_1 a1_2 t252 a2_1) else (some false)) else (some false)))) else (cambiumlaw13_InodeBack.j0 k t251 a1_0 a1_1 a1_2 t252 a2_1)))) = some r := H
  have A4 := Aside0.mk A40
  clear A40
  replace H := Option.bind_eq_some_iff.mp H
  obtain ⟨t252, A50, H⟩ := H
  replace H : ((inode_Put.f k a0_0 a0_1 a0_2).bind fun bt255 => (if bt255.2 = 0 then ((inode_Take.f k bt255.1).bind fun bt259 => (if (!(bt259.1 == a0_0) || (!(bt259.2.1 == a0_1) || (!(bt259.2.2.1 == a0_2)))) = true then (some false) else (if bt259.2.2.2 = 0 then (if (bt255.1.length : Int) = 7 then (cambiumlaw13_InodeBack.j0 k t251 a1_0 a1_1 a1_2 t252 a2_1) else (some false)) else (some false)))) else (cambiumlaw13_InodeBack.j0 k t251 a1_0 a1_1 a1_2 t252 a2_1))) = some r := H
  have A5 := Aside0.mk A50
  clear A50
  replace H := Option.bind_eq_some_iff.mp H
  obtain ⟨⟨t255, t258⟩, A60, H⟩ := H
  replace H : (if t258 = 0 then ((inode_Take.f k t255).bind fun bt259 => (if (!(bt259.1 == a0_0) || (!(bt259.2.1 == a0_1) || (!(bt259.2.2.1 == a0_2)))) = true then (some false) else (if bt259.2.2.2 = 0 then (if (t255.length : Int) = 7 then (cambiumlaw13_InodeBack.j0 k t251 a1_0 a1_1 a1_2 t252 a2_1) else (some false)) else (some false)))) else (cambiumlaw13_InodeBack.j0 k t251 a1_0 a1_1 a1_2 t252 a2_1)) = some r := H
  have A6 := Aside0.mk A60
  clear A60
  have HC7 := Aside0.mk H
  clear H
  go_enter Try.func6, Try.ntmps6
  go_upto_if 29 with (first | ((with_reducible refine gate_dst (N := 3) rfl ?_); (try (refine gate_guard (by rfl) ?_; dsimp only)); refine box_event ?hg (N := 3) ?hd (cs := #[.int .i64 a0_0, .int .i64 a0_1, .int .i64 a0_2]) (t := 23) ?hr ?_; (case hd => rfl); (case hg => rfl); (case hr => first | (go_simp; done) | (go_simp; rfl)); intro gb248 hg w8 hbox hb; have n0_ := Aside0.mk (below_step (by repeat (first | (with_reducible first | exact HB.out | apply below_alloc | apply pw_below_drewN | apply below_drew1) | exact HB.out)) hb); have n1_ := Aside0.mk (hbox); have n2_ := Aside0.mk ((by rw [hg]; exact (below_size (by repeat (first | (with_reducible first | exact HB.out | apply below_alloc | apply pw_below_drewN | apply below_drew1) | exact HB.out))) : w.heap.size ≤ gb248)); have n3_ := Aside0.mk ((by rw [hg]; exact (below_size (by repeat (first | (with_reducible first | exact HB.out | apply below_alloc | apply pw_below_drewN | apply below_drew1) | exact HB.out))) : w.heap.size ≤ gb248)); clear HB; have HB := n0_; have BK248 := n1_; have GW248 := n2_; have GE248 := n3_; clear n0_ n1_ n2_ n3_; clear hb hbox hg) | ((with_reducible refine gate_dst (N := 4) rfl ?_); (try (refine gate_guard (by rfl) ?_; dsimp only)); refine box_event ?hg (N := 4) ?hd (cs := #[.string a1_0, .int .i64 a1_1, .int .i64 a1_2]) (t := 25) ?hr ?_; (case hd => rfl); (case hg => rfl); (case hr => first | (go_simp; done) | (go_simp; rfl)); intro gb249 hg w9 hbox hb; have n0_ := Aside0.mk (blk_below (g := gb248) (o := .cells #[.int .i64 a0_0, .int .i64 a0_1, .int .i64 a0_2] 23 (0, 0)) (by (with_reducible repeat (first | refine blk_drewN ?_ _ | refine blk_drew ?_ | refine blk_alloc ?_ _)); exact BK248.out) hb); have n1_ := Aside0.mk (below_step (by repeat (first | (with_reducible first | exact HB.out | apply below_alloc | apply pw_below_drewN | apply below_drew1 | refine below_set ?_ GE248.out) | exact HB.out)) hb); have n2_ := Aside0.mk (hbox); have n3_ := Aside0.mk ((by rw [hg]; exact (below_size (by repeat (first | (with_reducible first | exact HB.out | apply below_alloc | apply pw_below_drewN | apply below_drew1 | refine below_set ?_ GE248.out) | exact HB.out))) : w.heap.size ≤ gb249)); have n4_ := Aside0.mk ((by rw [hg]; exact (below_size (by repeat (first | (with_reducible first | exact HB.out | apply below_alloc | apply pw_below_drewN | apply below_drew1 | refine below_set ?_ GE248.out) | exact HB.out))) : w.heap.size ≤ gb249)); have n5_ := Aside0.mk ((by rw [hg]; exact Nat.ne_of_lt (blk_lt (g := gb248) (o := .cells #[.int .i64 a0_0, .int .i64 a0_1, .int .i64 a0_2] 23 (0, 0)) (by (with_reducible repeat (first | refine blk_drewN ?_ _ | refine blk_drew ?_ | refine blk_alloc ?_ _)); exact BK248.out)) : gb248 ≠ gb249)); have n6_ := Aside0.mk ((by rw [hg]; exact Nat.ne_of_gt (blk_lt (g := gb248) (o := .cells #[.int .i64 a0_0, .int .i64 a0_1, .int .i64 a0_2] 23 (0, 0)) (by (with_reducible repeat (first | refine blk_drewN ?_ _ | refine blk_drew ?_ | refine blk_alloc ?_ _)); exact BK248.out)) : gb249 ≠ gb248)); clear BK248; clear HB; have BK248 := n0_; have HB := n1_; have BK249 := n2_; have GW249 := n3_; have GE249 := n4_; have NB248_249 := n5_; have NB249_248 := n6_; clear n0_ n1_ n2_ n3_ n4_ n5_ n6_; clear hb hbox hg) | ((with_reducible refine gate_dst (N := 5) rfl ?_); (try (refine gate_guard (by rfl) ?_; dsimp only)); refine box_event ?hg (N := 5) ?hd (cs := #[.slice A2_0 l2_0.length c2_0, .int .i64 a2_1]) (t := 28) ?hr ?_; (case hd => rfl); (case hg => rfl); (case hr => first | (go_simp; done) | (go_simp; rfl)); intro gb250 hg w10 hbox hb; have n0_ := Aside0.mk (blk_below (g := gb248) (o := .cells #[.int .i64 a0_0, .int .i64 a0_1, .int .i64 a0_2] 23 (0, 0)) (by (with_reducible repeat (first | refine blk_drewN ?_ _ | refine blk_drew ?_ | refine blk_alloc ?_ _)); exact BK248.out) hb); have n1_ := Aside0.mk (blk_below (g := gb249) (o := .cells #[.string a1_0, .int .i64 a1_1, .int .i64 a1_2] 25 (0, 0)) (by (with_reducible repeat (first | refine blk_drewN ?_ _ | refine blk_drew ?_ | refine blk_alloc ?_ _)); exact BK249.out) hb); have n2_ := Aside0.mk (below_step (by repeat (first | (with_reducible first | exact HB.out | apply below_alloc | apply pw_below_drewN | apply below_drew1 | refine below_set ?_ GE248.out | refine below_set ?_ GE249.out) | exact HB.out)) hb); have n3_ := Aside0.mk (hbox); have n4_ := Aside0.mk ((by rw [hg]; exact (below_size (by repeat (first | (with_reducible first | exact HB.out | apply below_alloc | apply pw_below_drewN | apply below_drew1 | refine below_set ?_ GE248.out | refine below_set ?_ GE249.out) | exact HB.out))) : w.heap.size ≤ gb250)); have n5_ := Aside0.mk ((by rw [hg]; exact (below_size (by repeat (first | (with_reducible first | exact HB.out | apply below_alloc | apply pw_below_drewN | apply below_drew1 | refine below_set ?_ GE248.out | refine below_set ?_ GE249.out) | exact HB.out))) : w.heap.size ≤ gb250)); have n6_ := Aside0.mk ((by rw [hg]; exact Nat.ne_of_lt (blk_lt (g := gb248) (o := .cells #[.int .i64 a0_0, .int .i64 a0_1, .int .i64 a0_2] 23 (0, 0)) (by (with_reducible repeat (first | refine blk_drewN ?_ _ | refine blk_drew ?_ | refine blk_alloc ?_ _)); exact BK248.out)) : gb248 ≠ gb250)); have n7_ := Aside0.mk ((by rw [hg]; exact Nat.ne_of_gt (blk_lt (g := gb248) (o := .cells #[.int .i64 a0_0, .int .i64 a0_1, .int .i64 a0_2] 23 (0, 0)) (by (with_reducible repeat (first | refine blk_drewN ?_ _ | refine blk_drew ?_ | refine blk_alloc ?_ _)); exact BK248.out)) : gb250 ≠ gb248)); have n8_ := Aside0.mk ((by rw [hg]; exact Nat.ne_of_lt (blk_lt (g := gb249) (o := .cells #[.string a1_0, .int .i64 a1_1, .int .i64 a1_2] 25 (0, 0)) (by (with_reducible repeat (first | refine blk_drewN ?_ _ | refine blk_drew ?_ | refine blk_alloc ?_ _)); exact BK249.out)) : gb249 ≠ gb250)); have n9_ := Aside0.mk ((by rw [hg]; exact Nat.ne_of_gt (blk_lt (g := gb249) (o := .cells #[.string a1_0, .int .i64 a1_1, .int .i64 a1_2] 25 (0, 0)) (by (with_reducible repeat (first | refine blk_drewN ?_ _ | refine blk_drew ?_ | refine blk_alloc ?_ _)); exact BK249.out)) : gb250 ≠ gb249)); clear BK248; clear BK249; clear HB; have BK248 := n0_; have BK249 := n1_; have HB := n2_; have BK250 := n3_; have GW250 := n4_; have GE250 := n5_; have NB248_250 := n6_; have NB250_248 := n7_; have NB249_250 := n8_; have NB250_249 := n9_; clear n0_ n1_ n2_ n3_ n4_ n5_ n6_ n7_ n8_ n9_; clear hb hbox hg) | ((with_reducible refine gate_callee (f := 8) rfl ?_); refine goesL_ (some 18) rfl rfl Try.func8 (by kernel_rfl) rfl #[] rfl (by (try simp only [List.map_toArray, List.map_cons, List.map_nil]); first | done | rfl | (simp only [List.length_drop, List.length_take]; rfl)) ?_; (with_reducible refine (cambiumlaw13_shown.calls k  t251 _ A4.out).mono ?_); rintro e w11 ⟨rfl, hb⟩; refine ⟨_, rfl, ?_⟩; have n0_ := Aside0.mk (blk_below (g := gb248) (o := .cells #[.int .i64 a0_0, .int .i64 a0_1, .int .i64 a0_2] 23 (0, 0)) (by (with_reducible repeat (first | refine blk_drewN ?_ _ | refine blk_drew ?_ | refine blk_alloc ?_ _)); exact BK248.out) hb); have n1_ := Aside0.mk (blk_below (g := gb249) (o := .cells #[.string a1_0, .int .i64 a1_1, .int .i64 a1_2] 25 (0, 0)) (by (with_reducible repeat (first | refine blk_drewN ?_ _ | refine blk_drew ?_ | refine blk_alloc ?_ _)); exact BK249.out) hb); have n2_ := Aside0.mk (blk_below (g := gb250) (o := .cells #[.slice A2_0 l2_0.length c2_0, .int .i64 a2_1] 28 (0, 0)) (by (with_reducible repeat (first | refine blk_drewN ?_ _ | refine blk_drew ?_ | refine blk_alloc ?_ _)); exact BK250.out) hb); have n3_ := Aside0.mk (below_step (by repeat (first | (with_reducible first | exact HB.out | apply below_alloc | apply pw_below_drewN | apply below_drew1 | refine below_set ?_ GE248.out | refine below_set ?_ GE249.out | refine below_set ?_ GE250.out) | exact HB.out)) hb); clear BK248; clear BK249; clear BK250; clear HB; have BK248 := n0_; have BK249 := n1_; have BK250 := n2_; have HB := n3_; clear n0_ n1_ n2_ n3_; (try clear hb); (try clear hb2); (try clear hk); (try clear hi); have hnb12 := NB250_248.out; have hnc12 := NB248_250.out; have hnb13 := NB250_249.out; have hnc13 := NB249_250.out; have hcz14_0 : w11.cell? ⟨gb250, 0, none⟩ = some (.slice A2_0 l2_0.length c2_0) := (blk_cell BK250.out 0).trans rfl; have hcz14_1 : w11.cell? ⟨gb250, 1, none⟩ = some (.int .i64 a2_1) := (blk_cell BK250.out 1).trans rfl; have hfz14_0 := blk_frozen BK250.out 0; have hfz14_1 := blk_frozen BK250.out 1) | ((with_reducible refine gate_callee (f := 9) rfl ?_); refine goesL_ (some 21) rfl rfl Try.func9 (by kernel_rfl) rfl #[.slice A2_0 l2_0.length c2_0] rfl (by (try simp only [List.map_toArray, List.map_cons, List.map_nil]); first | done | rfl | (simp only [List.length_drop, List.length_take]; rfl)) ?_; (with_reducible refine (cambiumlaw13_few.calls (fun k_ => k_ < w.heap.size) _ _ l2_0 t252 _ ?side1 A5.out).mono ?_); (case side1 => exact Kd.V_mk HC2_0.out (Kd.F_below (Kd.C_F (Kd.heap_int .u8) HR2_0.out) (by repeat (first | (with_reducible first | exact HB.out | apply below_alloc | apply pw_below_drewN | apply below_drew1 | refine below_set ?_ GE248.out | refine below_set ?_ GE249.out | refine below_set ?_ GE250.out) | exact HB.out)))); rintro e w15 ⟨v253, rfl, ho0, hb⟩; refine ⟨_, rfl, ?_⟩; have n0_ := Aside0.mk (Kd.V_lower (Kd.V_mono (ok' := fun k_ => k_ ≠ gb248 ∧ k_ ≠ gb249 ∧ k_ ≠ gb250) ho0 (fun k_ hk_ => ⟨Or.elim hk_ (fun hs_ => fun e_ => Nat.not_le.2 hs_ (by rw [e_]; exact GW248.out)) (fun hn_ => (Kd.freshB (g := gb248) (o := .cells #[.int .i64 a0_0, .int .i64 a0_1, .int .i64 a0_2] 23 (0, 0)) (by (with_reducible repeat (first | refine blk_drewN ?_ _ | refine blk_drew ?_ | refine blk_alloc ?_ _)); exact BK248.out) k_ hn_)), Or.elim hk_ (fun hs_ => fun e_ => Nat.not_le.2 hs_ (by rw [e_]; exact GW249.out)) (fun hn_ => (Kd.freshB (g := gb249) (o := .cells #[.string a1_0, .int .i64 a1_1, .int .i64 a1_2] 25 (0, 0)) (by (with_reducible repeat (first | refine blk_drewN ?_ _ | refine blk_drew ?_ | refine blk_alloc ?_ _)); exact BK249.out) k_ hn_)), Or.elim hk_ (fun hs_ => fun e_ => Nat.not_le.2 hs_ (by rw [e_]; exact GW250.out)) (fun hn_ => (Kd.freshB (g := gb250) (o := .cells #[.slice A2_0 l2_0.length c2_0, .int .i64 a2_1] 28 (0, 0)) (by (with_reducible repeat (first | refine blk_drewN ?_ _ | refine blk_drew ?_ | refine blk_alloc ?_ _)); exact BK250.out) k_ hn_))⟩)) (below_size (by repeat (first | (with_reducible first | exact HB.out | apply below_alloc | apply pw_below_drewN | apply below_drew1 | refine below_set ?_ GE248.out | refine below_set ?_ GE249.out | refine below_set ?_ GE250.out) | exact HB.out)))); have n1_ := Aside0.mk (blk_below (g := gb248) (o := .cells #[.int .i64 a0_0, .int .i64 a0_1, .int .i64 a0_2] 23 (0, 0)) (by (with_reducible repeat (first | refine blk_drewN ?_ _ | refine blk_drew ?_ | refine blk_alloc ?_ _)); exact BK248.out) hb); have n2_ := Aside0.mk (blk_below (g := gb249) (o := .cells #[.string a1_0, .int .i64 a1_1, .int .i64 a1_2] 25 (0, 0)) (by (with_reducible repeat (first | refine blk_drewN ?_ _ | refine blk_drew ?_ | refine blk_alloc ?_ _)); exact BK249.out) hb); have n3_ := Aside0.mk (blk_below (g := gb250) (o := .cells #[.slice A2_0 l2_0.length c2_0, .int .i64 a2_1] 28 (0, 0)) (by (with_reducible repeat (first | refine blk_drewN ?_ _ | refine blk_drew ?_ | refine blk_alloc ?_ _)); exact BK250.out) hb); have n4_ := Aside0.mk (below_step (by repeat (first | (with_reducible first | exact HB.out | apply below_alloc | apply pw_below_drewN | apply below_drew1 | refine below_set ?_ GE248.out | refine below_set ?_ GE249.out | refine below_set ?_ GE250.out) | exact HB.out)) hb); clear BK248; clear BK249; clear BK250; clear HB; have HO254 := n0_; have BK248 := n1_; have BK249 := n2_; have BK250 := n3_; have HB := n4_; clear n0_ n1_ n2_ n3_ n4_; (try clear hb); (try clear hb2); (try clear hk); (try clear hi); (try clear ho0); obtain ⟨Ao16, co16, eo16⟩ := Kd.V_slice HO254.out; subst eo16; have hcz17_0 : w15.cell? ⟨gb250, 0, none⟩ = some (.slice A2_0 l2_0.length c2_0) := (blk_cell BK250.out 0).trans rfl; have hcz17_1 : w15.cell? ⟨gb250, 1, none⟩ = some (.int .i64 a2_1) := (blk_cell BK250.out 1).trans rfl; have hfz17_0 := blk_frozen BK250.out 0; have hfz17_1 := blk_frozen BK250.out 1; have hnb18 := NB248_249.out; have hnc18 := NB249_248.out; have hcz19_0 : w15.cell? ⟨gb248, 0, none⟩ = some (.int .i64 a0_0) := (blk_cell BK248.out 0).trans rfl; have hcz19_1 : w15.cell? ⟨gb248, 1, none⟩ = some (.int .i64 a0_1) := (blk_cell BK248.out 1).trans rfl; have hcz19_2 : w15.cell? ⟨gb248, 2, none⟩ = some (.int .i64 a0_2) := (blk_cell BK248.out 2).trans rfl; have hfz19_0 := blk_frozen BK248.out 0; have hfz19_1 := blk_frozen BK248.out 1; have hfz19_2 := blk_frozen BK248.out 2) | ((with_reducible refine gate_callee (f := 10) rfl ?_); refine goesL_ (some 25) rfl rfl Try.func10 (by kernel_rfl) rfl #[.agg #[.int .i64 a0_0, .int .i64 a0_1, .int .i64 a0_2]] rfl (by (try simp only [List.map_toArray, List.map_cons, List.map_nil]); first | done | rfl | (simp only [List.length_drop, List.length_take]; rfl)) ?_; (with_reducible refine (inode_Put.calls k a0_0 a0_1 a0_2 t255 t258 _ A6.out).mono ?_); rintro e w20 ⟨v256, rfl, ho0, hb⟩; refine ⟨_, rfl, ?_⟩; have n0_ := Aside0.mk (Kd.V_below (by (with_reducible repeat (first | apply Kd.V_alloc | apply Kd.V_drewN | apply Kd.V_drew)); exact (Kd.V_mono (Kd.V_far (p := ⟨gb250, 0, none⟩) (Kd.V_mono HO254.out (fun k_ hk => (⟨hk, hk.2.2⟩ : _ ∧ k_ ≠ gb250))) (fun _ hk => hk.2) (.slice Ao16 t252.length co16)) (fun _ h_ => h_.1))) hb); have n1_ := Aside0.mk (Kd.V_lower (Kd.V_mono (ok' := fun k_ => k_ ≠ gb248 ∧ k_ ≠ gb249 ∧ k_ ≠ gb250) ho0 (fun k_ hk_ => ⟨(Kd.freshB (g := gb248) (o := .cells #[.int .i64 a0_0, .int .i64 a0_1, .int .i64 a0_2] 23 (0, 0)) (by (with_reducible repeat (first | refine blk_drewN ?_ _ | refine blk_drew ?_ | refine blk_alloc ?_ _)); refine blk_far ?_ NB248_250.out _; (with_reducible repeat (first | refine blk_drewN ?_ _ | refine blk_drew ?_ | refine blk_alloc ?_ _)); exact BK248.out) k_ hk_), (Kd.freshB (g := gb249) (o := .cells #[.string a1_0, .int .i64 a1_1, .int .i64 a1_2] 25 (0, 0)) (by (with_reducible repeat (first | refine blk_drewN ?_ _ | refine blk_drew ?_ | refine blk_alloc ?_ _)); refine blk_far ?_ NB249_250.out _; (with_reducible repeat (first | refine blk_drewN ?_ _ | refine blk_drew ?_ | refine blk_alloc ?_ _)); exact BK249.out) k_ hk_), (Kd.freshB (g := gb250) (o := .cells #[.slice Ao16 t252.length co16, .int .i64 a2_1] 28 (0, 0)) (by (with_reducible repeat (first | refine blk_drewN ?_ _ | refine blk_drew ?_ | refine blk_alloc ?_ _)); refine blk_put (cs := #[.slice A2_0 l2_0.length c2_0, .int .i64 a2_1]) ?_ 0 _ rfl; (with_reducible repeat (first | refine blk_drewN ?_ _ | refine blk_drew ?_ | refine blk_alloc ?_ _)); exact BK250.out) k_ hk_)⟩)) (below_size (by repeat (first | (with_reducible first | exact HB.out | apply below_alloc | apply pw_below_drewN | apply below_drew1 | refine below_set ?_ GE248.out | refine below_set ?_ GE249.out | refine below_set ?_ GE250.out) | exact HB.out)))); have n2_ := Aside0.mk (blk_below (g := gb248) (o := .cells #[.int .i64 a0_0, .int .i64 a0_1, .int .i64 a0_2] 23 (0, 0)) (by (with_reducible repeat (first | refine blk_drewN ?_ _ | refine blk_drew ?_ | refine blk_alloc ?_ _)); refine blk_far ?_ NB248_250.out _; (with_reducible repeat (first | refine blk_drewN ?_ _ | refine blk_drew ?_ | refine blk_alloc ?_ _)); exact BK248.out) hb); have n3_ := Aside0.mk (blk_below (g := gb249) (o := .cells #[.string a1_0, .int .i64 a1_1, .int .i64 a1_2] 25 (0, 0)) (by (with_reducible repeat (first | refine blk_drewN ?_ _ | refine blk_drew ?_ | refine blk_alloc ?_ _)); refine blk_far ?_ NB249_250.out _; (with_reducible repeat (first | refine blk_drewN ?_ _ | refine blk_drew ?_ | refine blk_alloc ?_ _)); exact BK249.out) hb); have n4_ := Aside0.mk (blk_below (g := gb250) (o := .cells #[.slice Ao16 t252.length co16, .int .i64 a2_1] 28 (0, 0)) (by (with_reducible repeat (first | refine blk_drewN ?_ _ | refine blk_drew ?_ | refine blk_alloc ?_ _)); refine blk_put (cs := #[.slice A2_0 l2_0.length c2_0, .int .i64 a2_1]) ?_ 0 _ rfl; (with_reducible repeat (first | refine blk_drewN ?_ _ | refine blk_drew ?_ | refine blk_alloc ?_ _)); exact BK250.out) hb); have n5_ := Aside0.mk (below_step (by repeat (first | (with_reducible first | exact HB.out | apply below_alloc | apply pw_below_drewN | apply below_drew1 | refine below_set ?_ GE248.out | refine below_set ?_ GE249.out | refine below_set ?_ GE250.out) | exact HB.out)) hb); clear HO254; clear BK248; clear BK249; clear BK250; clear HB; have HO254 := n0_; have HO257 := n1_; have BK248 := n2_; have BK249 := n3_; have BK250 := n4_; have HB := n5_; clear n0_ n1_ n2_ n3_ n4_ n5_; (try clear hb); (try clear hb2); (try clear hk); (try clear hi); (try clear ho0)))
  (try simp only [Act.put, List.setIfInBounds_toArray, List.set_cons_zero, List.set_cons_succ])
  go_cut [] (fun wc => ∃ (kq : Nat), Aside0 (cambiumlaw13_InodeBack.j0 kq t251 a1_0 a1_1 a1_2 t252 a2_1 = some r) ∧ Aside0 (kq ≤ k) ∧ Aside0 (Kd.V (Kd.int .u8) 5 wc w.heap.size (fun k_ => k_ ≠ gb248 ∧ k_ ≠ gb249 ∧ k_ ≠ gb250) (.slice Ao16 t252.length co16) t252) ∧ Aside0 (wc.heap[gb248]? = some (.cells #[.int .i64 a0_0, .int .i64 a0_1, .int .i64 a0_2] 23 (0, 0))) ∧ Aside0 (wc.heap[gb249]? = some (.cells #[.string a1_0, .int .i64 a1_1, .int .i64 a1_2] 25 (0, 0))) ∧ Aside0 (wc.heap[gb250]? = some (.cells #[(.slice Ao16 t252.length co16), .int .i64 a2_1] 28 (0, 0))) ∧ Aside0 (Below w.heap.size w wc))
  case first =>
    have H := HC7.out
    clear HC7
    by_cases c21 : t258 = 0
    · rw [if_pos c21] at H
      have c21b0 : (t258 == 0) = true := beq_iff_eq.mpr c21
      have c21b1 : (t258 != 0) = false := bne_eq_false_iff_eq.mpr c21
      clear c21
      (first | rw [c21b0] | (simp only [i64_w, i32_w]; rw [c21b0]) | skip)
      replace H := Option.bind_eq_some_iff.mp H
      obtain ⟨⟨t259, t260, t261, t262⟩, A220, H⟩ := H
      replace H : (if (!(t259 == a0_0) || (!(t260 == a0_1) || (!(t261 == a0_2)))) = true then (some false) else (if t262 = 0 then (if (t255.length : Int) = 7 then (cambiumlaw13_InodeBack.j0 k t251 a1_0 a1_1 a1_2 t252 a2_1) else (some false)) else (some false))) = some r := H
      have A22 := Aside0.mk A220
      clear A220
      by_cases c23 : (!(t259 == a0_0) || (!(t260 == a0_1) || (!(t261 == a0_2)))) = true
      · rw [if_pos c23] at H
        have c23b0 : (!(t259 == a0_0) || (!(t260 == a0_1) || (!(t261 == a0_2)))) = true := c23
        clear c23
        exact absurd (Option.some.inj H) (by rw [hr_.out]; decide)
      · rw [if_neg c23] at H
        have c23b0 : (!(t259 == a0_0) || (!(t260 == a0_1) || (!(t261 == a0_2)))) = false := by simpa using c23
        clear c23
        by_cases c24 : t262 = 0
        · rw [if_pos c24] at H
          have c24b0 : (t262 == 0) = true := beq_iff_eq.mpr c24
          have c24b1 : (t262 != 0) = false := bne_eq_false_iff_eq.mpr c24
          clear c24
          by_cases c25 : (t255.length : Int) = 7
          · rw [if_pos c25] at H
            have c25b0 : ((t255.length : Int) == 7) = true := beq_iff_eq.mpr c25
            have c25b1 : ((t255.length : Int) != 7) = false := bne_eq_false_iff_eq.mpr c25
            clear c25
            have H' := Aside0.mk H
            clear H
            obtain ⟨Ao26, co26, eo26⟩ := Kd.V_slice HO257.out
            subst eo26
            go_wp2_with (first | ((with_reducible refine gate_callee (f := 20) rfl ?_); refine goesL_ (some 32) rfl rfl Try.func20 (by kernel_rfl) rfl #[.slice Ao26 t255.length co26] rfl (by (try simp only [List.map_toArray, List.map_cons, List.map_nil]); first | done | rfl | (simp only [List.length_drop, List.length_take]; rfl)) ?_; (with_reducible refine (inode_Take.calls k _ _ t255 t259 t260 t261 t262 _ ?side1 ?side2 A22.out).mono ?_); (case side1 => repeat (first | exact (Kd.V_reads' HO257.out).2.2 | (with_reducible refine Kd.C_alloc ?_ _) | (with_reducible refine Kd.C_drewN ?_ _) | (with_reducible refine Kd.C_drew ?_))); (case side2 => exact (Kd.V_reads' HO257.out).2.1); rintro e w27 ⟨rfl, hb⟩; refine ⟨_, rfl, ?_⟩; have n0_ := Aside0.mk (Kd.V_below (by (with_reducible repeat (first | apply Kd.V_alloc | apply Kd.V_drewN | apply Kd.V_drew)); exact HO254.out) hb); have n1_ := Aside0.mk (Kd.V_below (by (with_reducible repeat (first | apply Kd.V_alloc | apply Kd.V_drewN | apply Kd.V_drew)); exact HO257.out) hb); have n2_ := Aside0.mk (blk_below (g := gb248) (o := .cells #[.int .i64 a0_0, .int .i64 a0_1, .int .i64 a0_2] 23 (0, 0)) (by (with_reducible repeat (first | refine blk_drewN ?_ _ | refine blk_drew ?_ | refine blk_alloc ?_ _)); exact BK248.out) hb); have n3_ := Aside0.mk (blk_below (g := gb249) (o := .cells #[.string a1_0, .int .i64 a1_1, .int .i64 a1_2] 25 (0, 0)) (by (with_reducible repeat (first | refine blk_drewN ?_ _ | refine blk_drew ?_ | refine blk_alloc ?_ _)); exact BK249.out) hb); have n4_ := Aside0.mk (blk_below (g := gb250) (o := .cells #[.slice Ao16 t252.length co16, .int .i64 a2_1] 28 (0, 0)) (by (with_reducible repeat (first | refine blk_drewN ?_ _ | refine blk_drew ?_ | refine blk_alloc ?_ _)); exact BK250.out) hb); have n5_ := Aside0.mk (below_step (by repeat (first | (with_reducible first | exact HB.out | apply below_alloc | apply pw_below_drewN | apply below_drew1 | refine below_set ?_ GE248.out | refine below_set ?_ GE249.out | refine below_set ?_ GE250.out) | exact HB.out)) hb); clear HO254; clear HO257; clear BK248; clear BK249; clear BK250; clear HB; have HO254 := n0_; have HO257 := n1_; have BK248 := n2_; have BK249 := n3_; have BK250 := n4_; have HB := n5_; clear n0_ n1_ n2_ n3_ n4_ n5_; (try clear hb); (try clear hb2); (try clear hk); (try clear hi)) | ((with_reducible refine gate_dst (N := 10) rfl ?_); (try (refine gate_guard (by rfl) ?_; dsimp only)); refine box_event ?hg (N := 10) ?hd (cs := #[.int .i64 0, .int .i64 0, .int .i64 0]) (t := 23) ?hr ?_; (case hd => rfl); (case hg => rfl); (case hr => first | (go_simp; done) | (go_simp; rfl)); intro gb263 hg w28 hbox hb; have n0_ := Aside0.mk (Kd.V_below (Kd.V_elderB (by (with_reducible repeat (first | apply Kd.V_alloc | apply Kd.V_drewN | apply Kd.V_drew)); exact HO254.out) gb263 (Nat.le_of_eq hg.symm)) hb); have n1_ := Aside0.mk (Kd.V_below (Kd.V_elderB (by (with_reducible repeat (first | apply Kd.V_alloc | apply Kd.V_drewN | apply Kd.V_drew)); exact HO257.out) gb263 (Nat.le_of_eq hg.symm)) hb); have n2_ := Aside0.mk (blk_below (g := gb248) (o := .cells #[.int .i64 a0_0, .int .i64 a0_1, .int .i64 a0_2] 23 (0, 0)) (by (with_reducible repeat (first | refine blk_drewN ?_ _ | refine blk_drew ?_ | refine blk_alloc ?_ _)); exact BK248.out) hb); have n3_ := Aside0.mk (blk_below (g := gb249) (o := .cells #[.string a1_0, .int .i64 a1_1, .int .i64 a1_2] 25 (0, 0)) (by (with_reducible repeat (first | refine blk_drewN ?_ _ | refine blk_drew ?_ | refine blk_alloc ?_ _)); exact BK249.out) hb); have n4_ := Aside0.mk (blk_below (g := gb250) (o := .cells #[.slice Ao16 t252.length co16, .int .i64 a2_1] 28 (0, 0)) (by (with_reducible repeat (first | refine blk_drewN ?_ _ | refine blk_drew ?_ | refine blk_alloc ?_ _)); exact BK250.out) hb); have n5_ := Aside0.mk (below_step (by repeat (first | (with_reducible first | exact HB.out | apply below_alloc | apply pw_below_drewN | apply below_drew1 | refine below_set ?_ GE248.out | refine below_set ?_ GE249.out | refine below_set ?_ GE250.out) | exact HB.out)) hb); have n6_ := Aside0.mk (hbox); have n7_ := Aside0.mk ((by rw [hg]; exact (below_size (by repeat (first | (with_reducible first | exact HB.out | apply below_alloc | apply pw_below_drewN | apply below_drew1 | refine below_set ?_ GE248.out | refine below_set ?_ GE249.out | refine below_set ?_ GE250.out) | exact HB.out))) : w.heap.size ≤ gb263)); have n8_ := Aside0.mk ((by rw [hg]; exact (below_size (by repeat (first | (with_reducible first | exact HB.out | apply below_alloc | apply pw_below_drewN | apply below_drew1 | refine below_set ?_ GE248.out | refine below_set ?_ GE249.out | refine below_set ?_ GE250.out) | exact HB.out))) : w.heap.size ≤ gb263)); have n9_ := Aside0.mk ((by rw [hg]; exact Nat.ne_of_lt (blk_lt (g := gb248) (o := .cells #[.int .i64 a0_0, .int .i64 a0_1, .int .i64 a0_2] 23 (0, 0)) (by (with_reducible repeat (first | refine blk_drewN ?_ _ | refine blk_drew ?_ | refine blk_alloc ?_ _)); exact BK248.out)) : gb248 ≠ gb263)); have n10_ := Aside0.mk ((by rw [hg]; exact Nat.ne_of_gt (blk_lt (g := gb248) (o := .cells #[.int .i64 a0_0, .int .i64 a0_1, .int .i64 a0_2] 23 (0, 0)) (by (with_reducible repeat (first | refine blk_drewN ?_ _ | refine blk_drew ?_ | refine blk_alloc ?_ _)); exact BK248.out)) : gb263 ≠ gb248)); have n11_ := Aside0.mk ((by rw [hg]; exact Nat.ne_of_lt (blk_lt (g := gb249) (o := .cells #[.string a1_0, .int .i64 a1_1, .int .i64 a1_2] 25 (0, 0)) (by (with_reducible repeat (first | refine blk_drewN ?_ _ | refine blk_drew ?_ | refine blk_alloc ?_ _)); exact BK249.out)) : gb249 ≠ gb263)); have n12_ := Aside0.mk ((by rw [hg]; exact Nat.ne_of_gt (blk_lt (g := gb249) (o := .cells #[.string a1_0, .int .i64 a1_1, .int .i64 a1_2] 25 (0, 0)) (by (with_reducible repeat (first | refine blk_drewN ?_ _ | refine blk_drew ?_ | refine blk_alloc ?_ _)); exact BK249.out)) : gb263 ≠ gb249)); have n13_ := Aside0.mk ((by rw [hg]; exact Nat.ne_of_lt (blk_lt (g := gb250) (o := .cells #[.slice Ao16 t252.length co16, .int .i64 a2_1] 28 (0, 0)) (by (with_reducible repeat (first | refine blk_drewN ?_ _ | refine blk_drew ?_ | refine blk_alloc ?_ _)); exact BK250.out)) : gb250 ≠ gb263)); have n14_ := Aside0.mk ((by rw [hg]; exact Nat.ne_of_gt (blk_lt (g := gb250) (o := .cells #[.slice Ao16 t252.length co16, .int .i64 a2_1] 28 (0, 0)) (by (with_reducible repeat (first | refine blk_drewN ?_ _ | refine blk_drew ?_ | refine blk_alloc ?_ _)); exact BK250.out)) : gb263 ≠ gb250)); clear HO254; clear HO257; clear BK248; clear BK249; clear BK250; clear HB; have HO254 := n0_; have HO257 := n1_; have BK248 := n2_; have BK249 := n3_; have BK250 := n4_; have HB := n5_; have BK263 := n6_; have GW263 := n7_; have GE263 := n8_; have NB248_263 := n9_; have NB263_248 := n10_; have NB249_263 := n11_; have NB263_249 := n12_; have NB250_263 := n13_; have NB263_250 := n14_; clear n0_ n1_ n2_ n3_ n4_ n5_ n6_ n7_ n8_ n9_ n10_ n11_ n12_ n13_ n14_; clear hb hbox hg; have hnb29 := NB263_248.out; have hnc29 := NB248_263.out; have hnb30 := NB263_249.out; have hnc30 := NB249_263.out; have hnb31 := NB263_250.out; have hnc31 := NB250_263.out; have hcz32_0 : w28.cell? ⟨gb263, 0, none⟩ = some (.int .i64 0) := (blk_cell BK263.out 0).trans rfl; have hcz32_1 : w28.cell? ⟨gb263, 1, none⟩ = some (.int .i64 0) := (blk_cell BK263.out 1).trans rfl; have hcz32_2 : w28.cell? ⟨gb263, 2, none⟩ = some (.int .i64 0) := (blk_cell BK263.out 2).trans rfl; have hfz32_0 := blk_frozen BK263.out 0; have hfz32_1 := blk_frozen BK263.out 1; have hfz32_2 := blk_frozen BK263.out 2; have hnb33 := NB248_249.out; have hnc33 := NB249_248.out; have hnb34 := NB248_250.out; have hnc34 := NB250_248.out; have hcz35_0 : w28.cell? ⟨gb248, 0, none⟩ = some (.int .i64 a0_0) := (blk_cell BK248.out 0).trans rfl; have hcz35_1 : w28.cell? ⟨gb248, 1, none⟩ = some (.int .i64 a0_1) := (blk_cell BK248.out 1).trans rfl; have hcz35_2 : w28.cell? ⟨gb248, 2, none⟩ = some (.int .i64 a0_2) := (blk_cell BK248.out 2).trans rfl; have hfz35_0 := blk_frozen BK248.out 0; have hfz35_1 := blk_frozen BK248.out 1; have hfz35_2 := blk_frozen BK248.out 2))
            go_meet
            case rel => exact ⟨_, H', ⟨by first | omega | exact Nat.le_refl _⟩, ⟨by (with_reducible repeat (first | apply Kd.V_alloc | apply Kd.V_drewN | apply Kd.V_drew)); exact Kd.V_mono (Kd.V_far (p := ⟨gb263, 2, none⟩) (Kd.V_far (p := ⟨gb263, 1, none⟩) (Kd.V_far (p := ⟨gb263, 0, none⟩) (Kd.V_mono HO254.out (fun k_ hk => (⟨hk, hk.2⟩ : _ ∧ k_ ≠ gb263))) (fun _ hk => hk.2) (.int .i64 t259)) (fun _ hk => hk.2) (.int .i64 t260)) (fun _ hk => hk.2) (.int .i64 t261)) (fun _ hk => ⟨hk.1.1.1, ⟨hk.1.1.2.1, hk.1.1.2.2⟩⟩)⟩, ⟨by (with_reducible repeat (first | refine blk_drewN ?_ _ | refine blk_drew ?_ | refine blk_alloc ?_ _)); refine blk_far ?_ NB248_263.out _; (with_reducible repeat (first | refine blk_drewN ?_ _ | refine blk_drew ?_ | refine blk_alloc ?_ _)); refine blk_far ?_ NB248_263.out _; (with_reducible repeat (first | refine blk_drewN ?_ _ | refine blk_drew ?_ | refine blk_alloc ?_ _)); refine blk_far ?_ NB248_263.out _; (with_reducible repeat (first | refine blk_drewN ?_ _ | refine blk_drew ?_ | refine blk_alloc ?_ _)); exact BK248.out⟩, ⟨by (with_reducible repeat (first | refine blk_drewN ?_ _ | refine blk_drew ?_ | refine blk_alloc ?_ _)); refine blk_far ?_ NB249_263.out _; (with_reducible repeat (first | refine blk_drewN ?_ _ | refine blk_drew ?_ | refine blk_alloc ?_ _)); refine blk_far ?_ NB249_263.out _; (with_reducible repeat (first | refine blk_drewN ?_ _ | refine blk_drew ?_ | refine blk_alloc ?_ _)); refine blk_far ?_ NB249_263.out _; (with_reducible repeat (first | refine blk_drewN ?_ _ | refine blk_drew ?_ | refine blk_alloc ?_ _)); exact BK249.out⟩, ⟨by (with_reducible repeat (first | refine blk_drewN ?_ _ | refine blk_drew ?_ | refine blk_alloc ?_ _)); refine blk_far ?_ NB250_263.out _; (with_reducible repeat (first | refine blk_drewN ?_ _ | refine blk_drew ?_ | refine blk_alloc ?_ _)); refine blk_far ?_ NB250_263.out _; (with_reducible repeat (first | refine blk_drewN ?_ _ | refine blk_drew ?_ | refine blk_alloc ?_ _)); refine blk_far ?_ NB250_263.out _; (with_reducible repeat (first | refine blk_drewN ?_ _ | refine blk_drew ?_ | refine blk_alloc ?_ _)); exact BK250.out⟩, ⟨by repeat (first | (with_reducible first | exact HB.out | apply below_alloc | apply pw_below_drewN | apply below_drew1 | refine below_set ?_ GE248.out | refine below_set ?_ GE249.out | refine below_set ?_ GE250.out | refine below_set ?_ GE263.out) | exact HB.out)⟩⟩
          · rw [if_neg c25] at H
            have c25b0 : ((t255.length : Int) == 7) = false := beq_eq_false_iff_ne.mpr c25
            have c25b1 : ((t255.length : Int) != 7) = true := bne_iff_ne.mpr c25
            exact absurd (Option.some.inj H) (by rw [hr_.out]; decide)
        · rw [if_neg c24] at H
          have c24b0 : (t262 == 0) = false := beq_eq_false_iff_ne.mpr c24
          have c24b1 : (t262 != 0) = true := bne_iff_ne.mpr c24
          exact absurd (Option.some.inj H) (by rw [hr_.out]; decide)
    · rw [if_neg c21] at H
      have c21b0 : (t258 == 0) = false := beq_eq_false_iff_ne.mpr c21
      have c21b1 : (t258 != 0) = true := bne_iff_ne.mpr c21
      (first | rw [c21b0] | (simp only [i64_w, i32_w]; rw [c21b0]) | skip)
      have H' := Aside0.mk H
      clear H
      go_wp2
      go_meet
      case rel => exact ⟨_, H', ⟨by first | omega | exact Nat.le_refl _⟩, ⟨by (with_reducible repeat (first | apply Kd.V_alloc | apply Kd.V_drewN | apply Kd.V_drew)); exact HO254.out⟩, ⟨by (with_reducible repeat (first | refine blk_drewN ?_ _ | refine blk_drew ?_ | refine blk_alloc ?_ _)); exact BK248.out⟩, ⟨by (with_reducible repeat (first | refine blk_drewN ?_ _ | refine blk_drew ?_ | refine blk_alloc ?_ _)); exact BK249.out⟩, ⟨by (with_reducible repeat (first | refine blk_drewN ?_ _ | refine blk_drew ?_ | refine blk_alloc ?_ _)); exact BK250.out⟩, ⟨by repeat (first | (with_reducible first | exact HB.out | apply below_alloc | apply pw_below_drewN | apply below_drew1 | refine below_set ?_ GE248.out | refine below_set ?_ GE249.out | refine below_set ?_ GE250.out) | exact HB.out)⟩⟩
  case rest =>
    clear HC7
    try clear c1
    try clear c2
    try clear p2
    try clear c3
    try clear c6
    try clear c8
    try clear c9
    try clear c10
    try clear c12
    try clear c13
    try clear c18
    try clear c20
    try clear c21
    try clear c21b0
    try clear c21b1
    try clear c23
    try clear c23b0
    try clear c24
    try clear c24b0
    try clear c24b1
    try clear c25
    try clear c25b0
    try clear c25b1
    try clear c29
    try clear c30
    try clear c31
    try clear c33
    try clear c34
    try clear hcz14_0
    try clear hcz14_1
    try clear hcz17_0
    try clear hcz17_1
    try clear hcz19_0
    try clear hcz19_1
    try clear hcz19_2
    try clear hcz32_0
    try clear hcz32_1
    try clear hcz32_2
    try clear hcz35_0
    try clear hcz35_1
    try clear hcz35_2
    try clear hfz14_0
    try clear hfz14_1
    try clear hfz17_0
    try clear hfz17_1
    try clear hfz19_0
    try clear hfz19_1
    try clear hfz19_2
    try clear hfz32_0
    try clear hfz32_1
    try clear hfz32_2
    try clear hfz35_0
    try clear hfz35_1
    try clear hfz35_2
    obtain ⟨kq, HA, HJ6, HO_251000, BK248, BK249, BK250, HB⟩ := hcut
    cases kq with
    | zero => exact absurd HA.out (by simp [cambiumlaw13_InodeBack.j0])
    | succ kj6 =>
      have H := HA.out
      clear HA
      simp only [cambiumlaw13_InodeBack.j0] at H
      replace H := Option.bind_eq_some_iff.mp H
      obtain ⟨⟨t264, t267⟩, A360, H⟩ := H
      replace H : (if t267 = 0 then ((inode_TakeEntry.f kj6 t264).bind fun bt268 => (if (!(bt268.1.toList == a1_0.toList) || (!(bt268.2.1 == a1_1) || (!(bt268.2.2.1 == a1_2)))) = true then (some false) else (if bt268.2.2.2 = 0 then (if (t264.length : Int) > 28 then (some false) else (cambiumlaw13_InodeBack.j1 kj6 t251 t252 a2_1)) else (some false)))) else (cambiumlaw13_InodeBack.j1 kj6 t251 t252 a2_1)) = some r := H
      have A36 := Aside0.mk A360
      clear A360
      have HC37 := Aside0.mk H
      clear H
      have hnb38 := NB249_248.out
      have hnc38 := NB248_249.out
      have hnb39 := NB249_250.out
      have hnc39 := NB250_249.out
      have hcz40_0 : wc.cell? ⟨gb249, 0, none⟩ = some (.string a1_0) := (blk_cell BK249.out 0).trans rfl
      have hcz40_1 : wc.cell? ⟨gb249, 1, none⟩ = some (.int .i64 a1_1) := (blk_cell BK249.out 1).trans rfl
      have hcz40_2 : wc.cell? ⟨gb249, 2, none⟩ = some (.int .i64 a1_2) := (blk_cell BK249.out 2).trans rfl
      have hfz40_0 := blk_frozen BK249.out 0
      have hfz40_1 := blk_frozen BK249.out 1
      have hfz40_2 := blk_frozen BK249.out 2
      go_upto_if 53 with (first | ((with_reducible refine gate_callee (f := 12) rfl ?_); refine goesL_ (some 49) rfl rfl Try.func12 (by kernel_rfl) rfl #[.agg #[.string a1_0, .int .i64 a1_1, .int .i64 a1_2]] rfl (by (try simp only [List.map_toArray, List.map_cons, List.map_nil]); first | done | rfl | (simp only [List.length_drop, List.length_take]; rfl)) ?_; (with_reducible refine (inode_PutEntry.calls kj6 a1_0 a1_1 a1_2 t264 t267 _ A36.out).mono ?_); rintro e w41 ⟨v265, rfl, ho0, hb⟩; refine ⟨_, rfl, ?_⟩; have n0_ := Aside0.mk (Kd.V_below (by (with_reducible repeat (first | apply Kd.V_alloc | apply Kd.V_drewN | apply Kd.V_drew)); exact HO_251000.out) hb); have n1_ := Aside0.mk (Kd.V_lower (Kd.V_mono (ok' := fun k_ => k_ ≠ gb248 ∧ k_ ≠ gb249 ∧ k_ ≠ gb250) ho0 (fun k_ hk_ => ⟨(Kd.freshB (g := gb248) (o := .cells #[.int .i64 a0_0, .int .i64 a0_1, .int .i64 a0_2] 23 (0, 0)) (by (with_reducible repeat (first | refine blk_drewN ?_ _ | refine blk_drew ?_ | refine blk_alloc ?_ _)); exact BK248.out) k_ hk_), (Kd.freshB (g := gb249) (o := .cells #[.string a1_0, .int .i64 a1_1, .int .i64 a1_2] 25 (0, 0)) (by (with_reducible repeat (first | refine blk_drewN ?_ _ | refine blk_drew ?_ | refine blk_alloc ?_ _)); exact BK249.out) k_ hk_), (Kd.freshB (g := gb250) (o := .cells #[.slice Ao16 t252.length co16, .int .i64 a2_1] 28 (0, 0)) (by (with_reducible repeat (first | refine blk_drewN ?_ _ | refine blk_drew ?_ | refine blk_alloc ?_ _)); exact BK250.out) k_ hk_)⟩)) (below_size (by repeat (first | (with_reducible first | exact HB.out | apply below_alloc | apply pw_below_drewN | apply below_drew1 | refine below_set ?_ GE248.out | refine below_set ?_ GE249.out | refine below_set ?_ GE250.out) | exact HB.out)))); have n2_ := Aside0.mk (blk_below (g := gb248) (o := .cells #[.int .i64 a0_0, .int .i64 a0_1, .int .i64 a0_2] 23 (0, 0)) (by (with_reducible repeat (first | refine blk_drewN ?_ _ | refine blk_drew ?_ | refine blk_alloc ?_ _)); exact BK248.out) hb); have n3_ := Aside0.mk (blk_below (g := gb249) (o := .cells #[.string a1_0, .int .i64 a1_1, .int .i64 a1_2] 25 (0, 0)) (by (with_reducible repeat (first | refine blk_drewN ?_ _ | refine blk_drew ?_ | refine blk_alloc ?_ _)); exact BK249.out) hb); have n4_ := Aside0.mk (blk_below (g := gb250) (o := .cells #[.slice Ao16 t252.length co16, .int .i64 a2_1] 28 (0, 0)) (by (with_reducible repeat (first | refine blk_drewN ?_ _ | refine blk_drew ?_ | refine blk_alloc ?_ _)); exact BK250.out) hb); have n5_ := Aside0.mk (below_step (by repeat (first | (with_reducible first | exact HB.out | apply below_alloc | apply pw_below_drewN | apply below_drew1 | refine below_set ?_ GE248.out | refine below_set ?_ GE249.out | refine below_set ?_ GE250.out) | exact HB.out)) hb); clear HO_251000; clear BK248; clear BK249; clear BK250; clear HB; have HO_251000 := n0_; have HO266 := n1_; have BK248 := n2_; have BK249 := n3_; have BK250 := n4_; have HB := n5_; clear n0_ n1_ n2_ n3_ n4_ n5_; (try clear hb); (try clear hb2); (try clear hk); (try clear hi); (try clear ho0)))
      (try simp only [Act.put, List.setIfInBounds_toArray, List.set_cons_zero, List.set_cons_succ])
      go_cut [] (fun wc => ∃ (kq : Nat), Aside0 (cambiumlaw13_InodeBack.j1 kq t251 t252 a2_1 = some r) ∧ Aside0 (kq ≤ kj6) ∧ Aside0 (Kd.V (Kd.int .u8) 5 wc w.heap.size (fun k_ => k_ ≠ gb248 ∧ k_ ≠ gb249 ∧ k_ ≠ gb250) (.slice Ao16 t252.length co16) t252) ∧ Aside0 (wc.heap[gb248]? = some (.cells #[.int .i64 a0_0, .int .i64 a0_1, .int .i64 a0_2] 23 (0, 0))) ∧ Aside0 (wc.heap[gb249]? = some (.cells #[.string a1_0, .int .i64 a1_1, .int .i64 a1_2] 25 (0, 0))) ∧ Aside0 (wc.heap[gb250]? = some (.cells #[(.slice Ao16 t252.length co16), .int .i64 a2_1] 28 (0, 0))) ∧ Aside0 (Below w.heap.size w wc))
      case first =>
        have H := HC37.out
        clear HC37
        by_cases c42 : t267 = 0
        · rw [if_pos c42] at H
          have c42b0 : (t267 == 0) = true := beq_iff_eq.mpr c42
          have c42b1 : (t267 != 0) = false := bne_eq_false_iff_eq.mpr c42
          clear c42
          (first | rw [c42b0] | (simp only [i64_w, i32_w]; rw [c42b0]) | skip)
          replace H := Option.bind_eq_some_iff.mp H
          obtain ⟨⟨t268, t269, t270, t271⟩, A430, H⟩ := H
          replace H : (if (!(t268.toList == a1_0.toList) || (!(t269 == a1_1) || (!(t270 == a1_2)))) = true then (some false) else (if t271 = 0 then (if (t264.length : Int) > 28 then (some false) else (cambiumlaw13_InodeBack.j1 kj6 t251 t252 a2_1)) else (some false))) = some r := H
          have A43 := Aside0.mk A430
          clear A430
          by_cases c44 : (!(t268.toList == a1_0.toList) || (!(t269 == a1_1) || (!(t270 == a1_2)))) = true
          · rw [if_pos c44] at H
            have c44b0 : (!(t268.toList == a1_0.toList) || (!(t269 == a1_1) || (!(t270 == a1_2)))) = true := c44
            clear c44
            exact absurd (Option.some.inj H) (by rw [hr_.out]; decide)
          · rw [if_neg c44] at H
            have c44b0 : (!(t268.toList == a1_0.toList) || (!(t269 == a1_1) || (!(t270 == a1_2)))) = false := by simpa using c44
            clear c44
            by_cases c45 : t271 = 0
            · rw [if_pos c45] at H
              have c45b0 : (t271 == 0) = true := beq_iff_eq.mpr c45
              have c45b1 : (t271 != 0) = false := bne_eq_false_iff_eq.mpr c45
              clear c45
              by_cases c46 : (t264.length : Int) > 28
              · rw [if_pos c46] at H
                have c46b0 : decide (28 < (t264.length : Int)) = true := decide_eq_true c46
                have c46b1 : decide (28 < t264.length) = true := decide_eq_true (by omega)
                clear c46
                exact absurd (Option.some.inj H) (by rw [hr_.out]; decide)
              · rw [if_neg c46] at H
                have c46b0 : decide (28 < (t264.length : Int)) = false := decide_eq_false c46
                have c46b1 : decide (28 < t264.length) = false := decide_eq_false (by omega)
                clear c46
                have H' := Aside0.mk H
                clear H
                obtain ⟨Ao47, co47, eo47⟩ := Kd.V_slice HO266.out
                subst eo47
                go_wp2_with (first | ((with_reducible refine gate_callee (f := 22) rfl ?_); refine goesL_ (some 56) rfl rfl Try.func22 (by kernel_rfl) rfl #[.slice Ao47 t264.length co47] rfl (by (try simp only [List.map_toArray, List.map_cons, List.map_nil]); first | done | rfl | (simp only [List.length_drop, List.length_take]; rfl)) ?_; (with_reducible refine (inode_TakeEntry.calls kj6 _ _ t264 t268 t269 t270 t271 _ ?side1 ?side2 A43.out).mono ?_); (case side1 => repeat (first | exact (Kd.V_reads' HO266.out).2.2 | (with_reducible refine Kd.C_alloc ?_ _) | (with_reducible refine Kd.C_drewN ?_ _) | (with_reducible refine Kd.C_drew ?_))); (case side2 => exact (Kd.V_reads' HO266.out).2.1); rintro e w48 ⟨rfl, hb⟩; refine ⟨_, rfl, ?_⟩; have n0_ := Aside0.mk (Kd.V_below (by (with_reducible repeat (first | apply Kd.V_alloc | apply Kd.V_drewN | apply Kd.V_drew)); exact HO_251000.out) hb); have n1_ := Aside0.mk (Kd.V_below (by (with_reducible repeat (first | apply Kd.V_alloc | apply Kd.V_drewN | apply Kd.V_drew)); exact HO266.out) hb); have n2_ := Aside0.mk (blk_below (g := gb248) (o := .cells #[.int .i64 a0_0, .int .i64 a0_1, .int .i64 a0_2] 23 (0, 0)) (by (with_reducible repeat (first | refine blk_drewN ?_ _ | refine blk_drew ?_ | refine blk_alloc ?_ _)); exact BK248.out) hb); have n3_ := Aside0.mk (blk_below (g := gb249) (o := .cells #[.string a1_0, .int .i64 a1_1, .int .i64 a1_2] 25 (0, 0)) (by (with_reducible repeat (first | refine blk_drewN ?_ _ | refine blk_drew ?_ | refine blk_alloc ?_ _)); exact BK249.out) hb); have n4_ := Aside0.mk (blk_below (g := gb250) (o := .cells #[.slice Ao16 t252.length co16, .int .i64 a2_1] 28 (0, 0)) (by (with_reducible repeat (first | refine blk_drewN ?_ _ | refine blk_drew ?_ | refine blk_alloc ?_ _)); exact BK250.out) hb); have n5_ := Aside0.mk (below_step (by repeat (first | (with_reducible first | exact HB.out | apply below_alloc | apply pw_below_drewN | apply below_drew1 | refine below_set ?_ GE248.out | refine below_set ?_ GE249.out | refine below_set ?_ GE250.out) | exact HB.out)) hb); clear HO_251000; clear HO266; clear BK248; clear BK249; clear BK250; clear HB; have HO_251000 := n0_; have HO266 := n1_; have BK248 := n2_; have BK249 := n3_; have BK250 := n4_; have HB := n5_; clear n0_ n1_ n2_ n3_ n4_ n5_; (try clear hb); (try clear hb2); (try clear hk); (try clear hi)) | ((with_reducible refine gate_dst (N := 13) rfl ?_); (try (refine gate_guard (by rfl) ?_; dsimp only)); refine box_event ?hg (N := 13) ?hd (cs := #[.string (⟨#[]⟩ : ByteArray), .int .i64 0, .int .i64 0]) (t := 25) ?hr ?_; (case hd => rfl); (case hg => rfl); (case hr => first | (go_simp; done) | (go_simp; rfl)); intro gb272 hg w49 hbox hb; have n0_ := Aside0.mk (Kd.V_below (Kd.V_elderB (by (with_reducible repeat (first | apply Kd.V_alloc | apply Kd.V_drewN | apply Kd.V_drew)); exact HO_251000.out) gb272 (Nat.le_of_eq hg.symm)) hb); have n1_ := Aside0.mk (Kd.V_below (Kd.V_elderB (by (with_reducible repeat (first | apply Kd.V_alloc | apply Kd.V_drewN | apply Kd.V_drew)); exact HO266.out) gb272 (Nat.le_of_eq hg.symm)) hb); have n2_ := Aside0.mk (blk_below (g := gb248) (o := .cells #[.int .i64 a0_0, .int .i64 a0_1, .int .i64 a0_2] 23 (0, 0)) (by (with_reducible repeat (first | refine blk_drewN ?_ _ | refine blk_drew ?_ | refine blk_alloc ?_ _)); exact BK248.out) hb); have n3_ := Aside0.mk (blk_below (g := gb249) (o := .cells #[.string a1_0, .int .i64 a1_1, .int .i64 a1_2] 25 (0, 0)) (by (with_reducible repeat (first | refine blk_drewN ?_ _ | refine blk_drew ?_ | refine blk_alloc ?_ _)); exact BK249.out) hb); have n4_ := Aside0.mk (blk_below (g := gb250) (o := .cells #[.slice Ao16 t252.length co16, .int .i64 a2_1] 28 (0, 0)) (by (with_reducible repeat (first | refine blk_drewN ?_ _ | refine blk_drew ?_ | refine blk_alloc ?_ _)); exact BK250.out) hb); have n5_ := Aside0.mk (below_step (by repeat (first | (with_reducible first | exact HB.out | apply below_alloc | apply pw_below_drewN | apply below_drew1 | refine below_set ?_ GE248.out | refine below_set ?_ GE249.out | refine below_set ?_ GE250.out) | exact HB.out)) hb); have n6_ := Aside0.mk (hbox); have n7_ := Aside0.mk ((by rw [hg]; exact (below_size (by repeat (first | (with_reducible first | exact HB.out | apply below_alloc | apply pw_below_drewN | apply below_drew1 | refine below_set ?_ GE248.out | refine below_set ?_ GE249.out | refine below_set ?_ GE250.out) | exact HB.out))) : w.heap.size ≤ gb272)); have n8_ := Aside0.mk ((by rw [hg]; exact (below_size (by repeat (first | (with_reducible first | exact HB.out | apply below_alloc | apply pw_below_drewN | apply below_drew1 | refine below_set ?_ GE248.out | refine below_set ?_ GE249.out | refine below_set ?_ GE250.out) | exact HB.out))) : w.heap.size ≤ gb272)); have n9_ := Aside0.mk ((by rw [hg]; exact Nat.ne_of_lt (blk_lt (g := gb248) (o := .cells #[.int .i64 a0_0, .int .i64 a0_1, .int .i64 a0_2] 23 (0, 0)) (by (with_reducible repeat (first | refine blk_drewN ?_ _ | refine blk_drew ?_ | refine blk_alloc ?_ _)); exact BK248.out)) : gb248 ≠ gb272)); have n10_ := Aside0.mk ((by rw [hg]; exact Nat.ne_of_gt (blk_lt (g := gb248) (o := .cells #[.int .i64 a0_0, .int .i64 a0_1, .int .i64 a0_2] 23 (0, 0)) (by (with_reducible repeat (first | refine blk_drewN ?_ _ | refine blk_drew ?_ | refine blk_alloc ?_ _)); exact BK248.out)) : gb272 ≠ gb248)); have n11_ := Aside0.mk ((by rw [hg]; exact Nat.ne_of_lt (blk_lt (g := gb249) (o := .cells #[.string a1_0, .int .i64 a1_1, .int .i64 a1_2] 25 (0, 0)) (by (with_reducible repeat (first | refine blk_drewN ?_ _ | refine blk_drew ?_ | refine blk_alloc ?_ _)); exact BK249.out)) : gb249 ≠ gb272)); have n12_ := Aside0.mk ((by rw [hg]; exact Nat.ne_of_gt (blk_lt (g := gb249) (o := .cells #[.string a1_0, .int .i64 a1_1, .int .i64 a1_2] 25 (0, 0)) (by (with_reducible repeat (first | refine blk_drewN ?_ _ | refine blk_drew ?_ | refine blk_alloc ?_ _)); exact BK249.out)) : gb272 ≠ gb249)); have n13_ := Aside0.mk ((by rw [hg]; exact Nat.ne_of_lt (blk_lt (g := gb250) (o := .cells #[.slice Ao16 t252.length co16, .int .i64 a2_1] 28 (0, 0)) (by (with_reducible repeat (first | refine blk_drewN ?_ _ | refine blk_drew ?_ | refine blk_alloc ?_ _)); exact BK250.out)) : gb250 ≠ gb272)); have n14_ := Aside0.mk ((by rw [hg]; exact Nat.ne_of_gt (blk_lt (g := gb250) (o := .cells #[.slice Ao16 t252.length co16, .int .i64 a2_1] 28 (0, 0)) (by (with_reducible repeat (first | refine blk_drewN ?_ _ | refine blk_drew ?_ | refine blk_alloc ?_ _)); exact BK250.out)) : gb272 ≠ gb250)); clear HO_251000; clear HO266; clear BK248; clear BK249; clear BK250; clear HB; have HO_251000 := n0_; have HO266 := n1_; have BK248 := n2_; have BK249 := n3_; have BK250 := n4_; have HB := n5_; have BK272 := n6_; have GW272 := n7_; have GE272 := n8_; have NB248_272 := n9_; have NB272_248 := n10_; have NB249_272 := n11_; have NB272_249 := n12_; have NB250_272 := n13_; have NB272_250 := n14_; clear n0_ n1_ n2_ n3_ n4_ n5_ n6_ n7_ n8_ n9_ n10_ n11_ n12_ n13_ n14_; clear hb hbox hg; have hnb50 := NB272_248.out; have hnc50 := NB248_272.out; have hnb51 := NB272_249.out; have hnc51 := NB249_272.out; have hnb52 := NB272_250.out; have hnc52 := NB250_272.out; have hcz53_0 : w49.cell? ⟨gb272, 0, none⟩ = some (.string (⟨#[]⟩ : ByteArray)) := (blk_cell BK272.out 0).trans rfl; have hcz53_1 : w49.cell? ⟨gb272, 1, none⟩ = some (.int .i64 0) := (blk_cell BK272.out 1).trans rfl; have hcz53_2 : w49.cell? ⟨gb272, 2, none⟩ = some (.int .i64 0) := (blk_cell BK272.out 2).trans rfl; have hfz53_0 := blk_frozen BK272.out 0; have hfz53_1 := blk_frozen BK272.out 1; have hfz53_2 := blk_frozen BK272.out 2; have hnb54 := NB249_248.out; have hnc54 := NB248_249.out; have hnb55 := NB249_250.out; have hnc55 := NB250_249.out; have hcz56_0 : w49.cell? ⟨gb249, 0, none⟩ = some (.string a1_0) := (blk_cell BK249.out 0).trans rfl; have hcz56_1 : w49.cell? ⟨gb249, 1, none⟩ = some (.int .i64 a1_1) := (blk_cell BK249.out 1).trans rfl; have hcz56_2 : w49.cell? ⟨gb249, 2, none⟩ = some (.int .i64 a1_2) := (blk_cell BK249.out 2).trans rfl; have hfz56_0 := blk_frozen BK249.out 0; have hfz56_1 := blk_frozen BK249.out 1; have hfz56_2 := blk_frozen BK249.out 2))
                go_meet
                case rel => exact ⟨_, H', ⟨by have := HJ6.out; first | omega | exact Nat.le_refl _⟩, ⟨by (with_reducible repeat (first | apply Kd.V_alloc | apply Kd.V_drewN | apply Kd.V_drew)); exact Kd.V_mono (Kd.V_far (p := ⟨gb272, 2, none⟩) (Kd.V_far (p := ⟨gb272, 1, none⟩) (Kd.V_far (p := ⟨gb272, 0, none⟩) (Kd.V_mono HO_251000.out (fun k_ hk => (⟨hk, hk.2⟩ : _ ∧ k_ ≠ gb272))) (fun _ hk => hk.2) (.string t268)) (fun _ hk => hk.2) (.int .i64 t269)) (fun _ hk => hk.2) (.int .i64 t270)) (fun _ hk => ⟨hk.1.1.1, ⟨hk.1.1.2.1, hk.1.1.2.2⟩⟩)⟩, ⟨by (with_reducible repeat (first | refine blk_drewN ?_ _ | refine blk_drew ?_ | refine blk_alloc ?_ _)); refine blk_far ?_ NB248_272.out _; (with_reducible repeat (first | refine blk_drewN ?_ _ | refine blk_drew ?_ | refine blk_alloc ?_ _)); refine blk_far ?_ NB248_272.out _; (with_reducible repeat (first | refine blk_drewN ?_ _ | refine blk_drew ?_ | refine blk_alloc ?_ _)); refine blk_far ?_ NB248_272.out _; (with_reducible repeat (first | refine blk_drewN ?_ _ | refine blk_drew ?_ | refine blk_alloc ?_ _)); exact BK248.out⟩, ⟨by (with_reducible repeat (first | refine blk_drewN ?_ _ | refine blk_drew ?_ | refine blk_alloc ?_ _)); refine blk_far ?_ NB249_272.out _; (with_reducible repeat (first | refine blk_drewN ?_ _ | refine blk_drew ?_ | refine blk_alloc ?_ _)); refine blk_far ?_ NB249_272.out _; (with_reducible repeat (first | refine blk_drewN ?_ _ | refine blk_drew ?_ | refine blk_alloc ?_ _)); refine blk_far ?_ NB249_272.out _; (with_reducible repeat (first | refine blk_drewN ?_ _ | refine blk_drew ?_ | refine blk_alloc ?_ _)); exact BK249.out⟩, ⟨by (with_reducible repeat (first | refine blk_drewN ?_ _ | refine blk_drew ?_ | refine blk_alloc ?_ _)); refine blk_far ?_ NB250_272.out _; (with_reducible repeat (first | refine blk_drewN ?_ _ | refine blk_drew ?_ | refine blk_alloc ?_ _)); refine blk_far ?_ NB250_272.out _; (with_reducible repeat (first | refine blk_drewN ?_ _ | refine blk_drew ?_ | refine blk_alloc ?_ _)); refine blk_far ?_ NB250_272.out _; (with_reducible repeat (first | refine blk_drewN ?_ _ | refine blk_drew ?_ | refine blk_alloc ?_ _)); exact BK250.out⟩, ⟨by repeat (first | (with_reducible first | exact HB.out | apply below_alloc | apply pw_below_drewN | apply below_drew1 | refine below_set ?_ GE248.out | refine below_set ?_ GE249.out | refine below_set ?_ GE250.out | refine below_set ?_ GE272.out) | exact HB.out)⟩⟩
            · rw [if_neg c45] at H
              have c45b0 : (t271 == 0) = false := beq_eq_false_iff_ne.mpr c45
              have c45b1 : (t271 != 0) = true := bne_iff_ne.mpr c45
              exact absurd (Option.some.inj H) (by rw [hr_.out]; decide)
        · rw [if_neg c42] at H
          have c42b0 : (t267 == 0) = false := beq_eq_false_iff_ne.mpr c42
          have c42b1 : (t267 != 0) = true := bne_iff_ne.mpr c42
          (first | rw [c42b0] | (simp only [i64_w, i32_w]; rw [c42b0]) | skip)
          have H' := Aside0.mk H
          clear H
          go_wp2
          go_meet
          case rel => exact ⟨_, H', ⟨by have := HJ6.out; first | omega | exact Nat.le_refl _⟩, ⟨by (with_reducible repeat (first | apply Kd.V_alloc | apply Kd.V_drewN | apply Kd.V_drew)); exact HO_251000.out⟩, ⟨by (with_reducible repeat (first | refine blk_drewN ?_ _ | refine blk_drew ?_ | refine blk_alloc ?_ _)); exact BK248.out⟩, ⟨by (with_reducible repeat (first | refine blk_drewN ?_ _ | refine blk_drew ?_ | refine blk_alloc ?_ _)); exact BK249.out⟩, ⟨by (with_reducible repeat (first | refine blk_drewN ?_ _ | refine blk_drew ?_ | refine blk_alloc ?_ _)); exact BK250.out⟩, ⟨by repeat (first | (with_reducible first | exact HB.out | apply below_alloc | apply pw_below_drewN | apply below_drew1 | refine below_set ?_ GE248.out | refine below_set ?_ GE249.out | refine below_set ?_ GE250.out) | exact HB.out)⟩⟩
      case rest =>
        clear HC37
        try clear c1
        try clear c2
        try clear p2
        try clear c3
        try clear c4
        try clear c5
        try clear c6
        try clear c8
        try clear c9
        try clear c10
        try clear c12
        try clear c13
        try clear c18
        try clear c20
        try clear c21
        try clear c21b0
        try clear c21b1
        try clear c22
        try clear c23
        try clear c23b0
        try clear c24
        try clear c24b0
        try clear c24b1
        try clear c25
        try clear c25b0
        try clear c25b1
        try clear c29
        try clear c30
        try clear c31
        try clear c33
        try clear c34
        try clear c38
        try clear c39
        try clear c42
        try clear c42b0
        try clear c42b1
        try clear c44
        try clear c44b0
        try clear c45
        try clear c45b0
        try clear c45b1
        try clear c46
        try clear c46b0
        try clear c46b1
        try clear c50
        try clear c51
        try clear c52
        try clear c54
        try clear c55
        try clear hcz14_0
        try clear hcz14_1
        try clear hcz17_0
        try clear hcz17_1
        try clear hcz19_0
        try clear hcz19_1
        try clear hcz19_2
        try clear hcz32_0
        try clear hcz32_1
        try clear hcz32_2
        try clear hcz35_0
        try clear hcz35_1
        try clear hcz35_2
        try clear hcz40_0
        try clear hcz40_1
        try clear hcz40_2
        try clear hcz53_0
        try clear hcz53_1
        try clear hcz53_2
        try clear hcz56_0
        try clear hcz56_1
        try clear hcz56_2
        try clear hfz14_0
        try clear hfz14_1
        try clear hfz17_0
        try clear hfz17_1
        try clear hfz19_0
        try clear hfz19_1
        try clear hfz19_2
        try clear hfz32_0
        try clear hfz32_1
        try clear hfz32_2
        try clear hfz35_0
        try clear hfz35_1
        try clear hfz35_2
        try clear hfz40_0
        try clear hfz40_1
        try clear hfz40_2
        try clear hfz53_0
        try clear hfz53_1
        try clear hfz53_2
        try clear hfz56_0
        try clear hfz56_1
        try clear hfz56_2
        try clear p2
        obtain ⟨kq, HA, HJ36, HO_251000, BK248, BK249, BK250, HB⟩ := hcut
        cases kq with
        | zero => exact absurd HA.out (by simp [cambiumlaw13_InodeBack.j1])
        | succ kj36 =>
          have H := HA.out
          clear HA
          simp only [cambiumlaw13_InodeBack.j1] at H
          replace H := Option.bind_eq_some_iff.mp H
          obtain ⟨⟨t273, t276⟩, A570, H⟩ := H
          replace H : (if t276 = 0 then ((inode_TakeExtent.f kj36 t273).bind fun bt277 => (if bt277.2.1 = a2_1 then (if (strOfNums bt277.1).toList = (strOfNums t252).toList then (if bt277.2.2 = 0 then (if (t273.length : Int) > 28 then (some false) else (some t251)) else (some false)) else (some false)) else (some false))) else (some t251)) = some r := H
          have A57 := Aside0.mk A570
          clear A570
          by_cases c58 : t276 = 0
          · rw [if_pos c58] at H
            have c58b0 : (t276 == 0) = true := beq_iff_eq.mpr c58
            have c58b1 : (t276 != 0) = false := bne_eq_false_iff_eq.mpr c58
            clear c58
            replace H := Option.bind_eq_some_iff.mp H
            obtain ⟨⟨t277, t280, t281⟩, A590, H⟩ := H
            replace H : (if t280 = a2_1 then (if (strOfNums t277).toList = (strOfNums t252).toList then (if t281 = 0 then (if (t273.length : Int) > 28 then (some false) else (some t251)) else (some false)) else (some false)) else (some false)) = some r := H
            have A59 := Aside0.mk A590
            clear A590
            by_cases c60 : t280 = a2_1
            · rw [if_pos c60] at H
              have c60b0 : (t280 == a2_1) = true := beq_iff_eq.mpr c60
              have c60b1 : (t280 != a2_1) = false := bne_eq_false_iff_eq.mpr c60
              clear c60
              by_cases c61 : (strOfNums t277).toList = (strOfNums t252).toList
              · rw [if_pos c61] at H
                have c61b0 : ((strOfNums t277).toList == (strOfNums t252).toList) = true := beq_iff_eq.mpr c61
                have c61b1 : ((strOfNums t277).toList != (strOfNums t252).toList) = false := bne_eq_false_iff_eq.mpr c61
                clear c61
                by_cases c62 : t281 = 0
                · rw [if_pos c62] at H
                  have c62b0 : (t281 == 0) = true := beq_iff_eq.mpr c62
                  have c62b1 : (t281 != 0) = false := bne_eq_false_iff_eq.mpr c62
                  clear c62
                  by_cases c63 : (t273.length : Int) > 28
                  · rw [if_pos c63] at H
                    have c63b0 : decide (28 < (t273.length : Int)) = true := decide_eq_true c63
                    have c63b1 : decide (28 < t273.length) = true := decide_eq_true (by omega)
                    clear c63
                    exact absurd (Option.some.inj H) (by rw [hr_.out]; decide)
                  · rw [if_neg c63] at H
                    have c63b0 : decide (28 < (t273.length : Int)) = false := decide_eq_false c63
                    have c63b1 : decide (28 < t273.length) = false := decide_eq_false (by omega)
                    clear c63
                    obtain rfl := Option.some.inj H
                    have hnb64 := NB250_248.out
                    have hnc64 := NB248_250.out
                    have hnb65 := NB250_249.out
                    have hnc65 := NB249_250.out
                    have hcz66_0 : wc.cell? ⟨gb250, 0, none⟩ = some (.slice Ao16 t252.length co16) := (blk_cell BK250.out 0).trans rfl
                    have hcz66_1 : wc.cell? ⟨gb250, 1, none⟩ = some (.int .i64 a2_1) := (blk_cell BK250.out 1).trans rfl
                    have hfz66_0 := blk_frozen BK250.out 0
                    have hfz66_1 := blk_frozen BK250.out 1
                    go_wp2_with (first | ((with_reducible refine gate_callee (f := 14) rfl ?_); refine goesL_ (some 73) rfl rfl Try.func14 (by kernel_rfl) rfl #[.agg #[.slice Ao16 t252.length co16, .int .i64 a2_1]] rfl (by (try simp only [List.map_toArray, List.map_cons, List.map_nil]); first | done | rfl | (simp only [List.length_drop, List.length_take]; rfl)) ?_; (with_reducible refine (inode_PutExtent.calls kj36 _ _ t252 a2_1 t273 t276 _ ?side1 ?side2 A57.out).mono ?_); (case side1 => repeat (first | exact (Kd.V_reads' HO_251000.out).2.2 | (with_reducible refine Kd.C_alloc ?_ _) | (with_reducible refine Kd.C_drewN ?_ _) | (with_reducible refine Kd.C_drew ?_))); (case side2 => exact (Kd.V_reads' HO_251000.out).2.1); rintro e w67 ⟨v274, rfl, ho0, hb⟩; refine ⟨_, rfl, ?_⟩; have n0_ := Aside0.mk (Kd.V_below (by (with_reducible repeat (first | apply Kd.V_alloc | apply Kd.V_drewN | apply Kd.V_drew)); exact HO_251000.out) hb); have n1_ := Aside0.mk (Kd.V_lower (Kd.V_mono (ok' := fun k_ => k_ ≠ gb248 ∧ k_ ≠ gb249 ∧ k_ ≠ gb250) ho0 (fun k_ hk_ => ⟨(Kd.freshB (g := gb248) (o := .cells #[.int .i64 a0_0, .int .i64 a0_1, .int .i64 a0_2] 23 (0, 0)) (by (with_reducible repeat (first | refine blk_drewN ?_ _ | refine blk_drew ?_ | refine blk_alloc ?_ _)); exact BK248.out) k_ hk_), (Kd.freshB (g := gb249) (o := .cells #[.string a1_0, .int .i64 a1_1, .int .i64 a1_2] 25 (0, 0)) (by (with_reducible repeat (first | refine blk_drewN ?_ _ | refine blk_drew ?_ | refine blk_alloc ?_ _)); exact BK249.out) k_ hk_), (Kd.freshB (g := gb250) (o := .cells #[.slice Ao16 t252.length co16, .int .i64 a2_1] 28 (0, 0)) (by (with_reducible repeat (first | refine blk_drewN ?_ _ | refine blk_drew ?_ | refine blk_alloc ?_ _)); exact BK250.out) k_ hk_)⟩)) (below_size (by repeat (first | (with_reducible first | exact HB.out | apply below_alloc | apply pw_below_drewN | apply below_drew1 | refine below_set ?_ GE248.out | refine below_set ?_ GE249.out | refine below_set ?_ GE250.out) | exact HB.out)))); have n2_ := Aside0.mk (blk_below (g := gb248) (o := .cells #[.int .i64 a0_0, .int .i64 a0_1, .int .i64 a0_2] 23 (0, 0)) (by (with_reducible repeat (first | refine blk_drewN ?_ _ | refine blk_drew ?_ | refine blk_alloc ?_ _)); exact BK248.out) hb); have n3_ := Aside0.mk (blk_below (g := gb249) (o := .cells #[.string a1_0, .int .i64 a1_1, .int .i64 a1_2] 25 (0, 0)) (by (with_reducible repeat (first | refine blk_drewN ?_ _ | refine blk_drew ?_ | refine blk_alloc ?_ _)); exact BK249.out) hb); have n4_ := Aside0.mk (blk_below (g := gb250) (o := .cells #[.slice Ao16 t252.length co16, .int .i64 a2_1] 28 (0, 0)) (by (with_reducible repeat (first | refine blk_drewN ?_ _ | refine blk_drew ?_ | refine blk_alloc ?_ _)); exact BK250.out) hb); have n5_ := Aside0.mk (below_step (by repeat (first | (with_reducible first | exact HB.out | apply below_alloc | apply pw_below_drewN | apply below_drew1 | refine below_set ?_ GE248.out | refine below_set ?_ GE249.out | refine below_set ?_ GE250.out) | exact HB.out)) hb); clear HO_251000; clear BK248; clear BK249; clear BK250; clear HB; have HO_251000 := n0_; have HO275 := n1_; have BK248 := n2_; have BK249 := n3_; have BK250 := n4_; have HB := n5_; clear n0_ n1_ n2_ n3_ n4_ n5_; (try clear hb); (try clear hb2); (try clear hk); (try clear hi); (try clear ho0); obtain ⟨Ao68, co68, eo68⟩ := Kd.V_slice HO275.out; subst eo68) | ((with_reducible refine gate_callee (f := 24) rfl ?_); refine goesL_ (some 80) rfl rfl Try.func24 (by kernel_rfl) rfl #[.slice Ao68 t273.length co68] rfl (by (try simp only [List.map_toArray, List.map_cons, List.map_nil]); first | done | rfl | (simp only [List.length_drop, List.length_take]; rfl)) ?_; (with_reducible refine (inode_TakeExtent.calls kj36 _ _ t273 t277 t280 t281 _ ?side1 ?side2 A59.out).mono ?_); (case side1 => repeat (first | exact (Kd.V_reads' HO275.out).2.2 | (with_reducible refine Kd.C_alloc ?_ _) | (with_reducible refine Kd.C_drewN ?_ _) | (with_reducible refine Kd.C_drew ?_))); (case side2 => exact (Kd.V_reads' HO275.out).2.1); rintro e w69 ⟨v278, rfl, ho0, hb⟩; refine ⟨_, rfl, ?_⟩; have n0_ := Aside0.mk (Kd.V_elder' (by (with_reducible repeat (first | apply Kd.V_alloc | apply Kd.V_drewN | apply Kd.V_drew)); exact HO_251000.out) (Kd.R_base ho0) hb); have n1_ := Aside0.mk (Kd.V_elder' (by (with_reducible repeat (first | apply Kd.V_alloc | apply Kd.V_drewN | apply Kd.V_drew)); exact HO275.out) (Kd.R_base ho0) hb); have n2_ := Aside0.mk (Kd.R_lower ho0 (below_size (by repeat (first | (with_reducible first | exact HB.out | apply below_alloc | apply pw_below_drewN | apply below_drew1 | refine below_set ?_ GE248.out | refine below_set ?_ GE249.out | refine below_set ?_ GE250.out) | exact HB.out)))); have n3_ := Aside0.mk (blk_below (g := gb248) (o := .cells #[.int .i64 a0_0, .int .i64 a0_1, .int .i64 a0_2] 23 (0, 0)) (by (with_reducible repeat (first | refine blk_drewN ?_ _ | refine blk_drew ?_ | refine blk_alloc ?_ _)); exact BK248.out) hb); have n4_ := Aside0.mk (blk_below (g := gb249) (o := .cells #[.string a1_0, .int .i64 a1_1, .int .i64 a1_2] 25 (0, 0)) (by (with_reducible repeat (first | refine blk_drewN ?_ _ | refine blk_drew ?_ | refine blk_alloc ?_ _)); exact BK249.out) hb); have n5_ := Aside0.mk (blk_below (g := gb250) (o := .cells #[.slice Ao16 t252.length co16, .int .i64 a2_1] 28 (0, 0)) (by (with_reducible repeat (first | refine blk_drewN ?_ _ | refine blk_drew ?_ | refine blk_alloc ?_ _)); exact BK250.out) hb); have n6_ := Aside0.mk (below_step (by repeat (first | (with_reducible first | exact HB.out | apply below_alloc | apply pw_below_drewN | apply below_drew1 | refine below_set ?_ GE248.out | refine below_set ?_ GE249.out | refine below_set ?_ GE250.out) | exact HB.out)) hb); clear HO_251000; clear HO275; clear BK248; clear BK249; clear BK250; clear HB; have HO_251000 := n0_; have HO275 := n1_; have HO279 := n2_; have BK248 := n3_; have BK249 := n4_; have BK250 := n5_; have HB := n6_; clear n0_ n1_ n2_ n3_ n4_ n5_ n6_; (try clear hb); (try clear hb2); (try clear hk); (try clear hi); (try clear ho0)) | ((with_reducible refine gate_dst (N := 16) rfl ?_); (try (refine gate_guard (by rfl) ?_; dsimp only)); refine box_event ?hg (N := 16) ?hd (cs := #[.slice none 0 0, .int .i64 0]) (t := 28) ?hr ?_; (case hd => rfl); (case hg => rfl); (case hr => first | (go_simp; done) | (go_simp; rfl)); intro gb282 hg w70 hbox hb; have n0_ := Aside0.mk (Kd.V_below (Kd.V_elderB (by (with_reducible repeat (first | apply Kd.V_alloc | apply Kd.V_drewN | apply Kd.V_drew)); exact HO_251000.out) gb282 (Nat.le_of_eq hg.symm)) hb); have n1_ := Aside0.mk (Kd.V_below (Kd.V_elderB (by (with_reducible repeat (first | apply Kd.V_alloc | apply Kd.V_drewN | apply Kd.V_drew)); exact HO275.out) gb282 (Nat.le_of_eq hg.symm)) hb); have n2_ := Aside0.mk (Kd.R_below (by (with_reducible repeat (first | apply Kd.R_alloc | apply Kd.R_drewN | apply Kd.R_drew)); exact HO279.out) hb); have n3_ := Aside0.mk (blk_below (g := gb248) (o := .cells #[.int .i64 a0_0, .int .i64 a0_1, .int .i64 a0_2] 23 (0, 0)) (by (with_reducible repeat (first | refine blk_drewN ?_ _ | refine blk_drew ?_ | refine blk_alloc ?_ _)); exact BK248.out) hb); have n4_ := Aside0.mk (blk_below (g := gb249) (o := .cells #[.string a1_0, .int .i64 a1_1, .int .i64 a1_2] 25 (0, 0)) (by (with_reducible repeat (first | refine blk_drewN ?_ _ | refine blk_drew ?_ | refine blk_alloc ?_ _)); exact BK249.out) hb); have n5_ := Aside0.mk (blk_below (g := gb250) (o := .cells #[.slice Ao16 t252.length co16, .int .i64 a2_1] 28 (0, 0)) (by (with_reducible repeat (first | refine blk_drewN ?_ _ | refine blk_drew ?_ | refine blk_alloc ?_ _)); exact BK250.out) hb); have n6_ := Aside0.mk (below_step (by repeat (first | (with_reducible first | exact HB.out | apply below_alloc | apply pw_below_drewN | apply below_drew1 | refine below_set ?_ GE248.out | refine below_set ?_ GE249.out | refine below_set ?_ GE250.out) | exact HB.out)) hb); have n7_ := Aside0.mk (hbox); have n8_ := Aside0.mk ((by rw [hg]; exact (below_size (by repeat (first | (with_reducible first | exact HB.out | apply below_alloc | apply pw_below_drewN | apply below_drew1 | refine below_set ?_ GE248.out | refine below_set ?_ GE249.out | refine below_set ?_ GE250.out) | exact HB.out))) : w.heap.size ≤ gb282)); have n9_ := Aside0.mk ((by rw [hg]; exact (below_size (by repeat (first | (with_reducible first | exact HB.out | apply below_alloc | apply pw_below_drewN | apply below_drew1 | refine below_set ?_ GE248.out | refine below_set ?_ GE249.out | refine below_set ?_ GE250.out) | exact HB.out))) : w.heap.size ≤ gb282)); have n10_ := Aside0.mk ((by rw [hg]; exact Nat.ne_of_lt (blk_lt (g := gb248) (o := .cells #[.int .i64 a0_0, .int .i64 a0_1, .int .i64 a0_2] 23 (0, 0)) (by (with_reducible repeat (first | refine blk_drewN ?_ _ | refine blk_drew ?_ | refine blk_alloc ?_ _)); exact BK248.out)) : gb248 ≠ gb282)); have n11_ := Aside0.mk ((by rw [hg]; exact Nat.ne_of_gt (blk_lt (g := gb248) (o := .cells #[.int .i64 a0_0, .int .i64 a0_1, .int .i64 a0_2] 23 (0, 0)) (by (with_reducible repeat (first | refine blk_drewN ?_ _ | refine blk_drew ?_ | refine blk_alloc ?_ _)); exact BK248.out)) : gb282 ≠ gb248)); have n12_ := Aside0.mk ((by rw [hg]; exact Nat.ne_of_lt (blk_lt (g := gb249) (o := .cells #[.string a1_0, .int .i64 a1_1, .int .i64 a1_2] 25 (0, 0)) (by (with_reducible repeat (first | refine blk_drewN ?_ _ | refine blk_drew ?_ | refine blk_alloc ?_ _)); exact BK249.out)) : gb249 ≠ gb282)); have n13_ := Aside0.mk ((by rw [hg]; exact Nat.ne_of_gt (blk_lt (g := gb249) (o := .cells #[.string a1_0, .int .i64 a1_1, .int .i64 a1_2] 25 (0, 0)) (by (with_reducible repeat (first | refine blk_drewN ?_ _ | refine blk_drew ?_ | refine blk_alloc ?_ _)); exact BK249.out)) : gb282 ≠ gb249)); have n14_ := Aside0.mk ((by rw [hg]; exact Nat.ne_of_lt (blk_lt (g := gb250) (o := .cells #[.slice Ao16 t252.length co16, .int .i64 a2_1] 28 (0, 0)) (by (with_reducible repeat (first | refine blk_drewN ?_ _ | refine blk_drew ?_ | refine blk_alloc ?_ _)); exact BK250.out)) : gb250 ≠ gb282)); have n15_ := Aside0.mk ((by rw [hg]; exact Nat.ne_of_gt (blk_lt (g := gb250) (o := .cells #[.slice Ao16 t252.length co16, .int .i64 a2_1] 28 (0, 0)) (by (with_reducible repeat (first | refine blk_drewN ?_ _ | refine blk_drew ?_ | refine blk_alloc ?_ _)); exact BK250.out)) : gb282 ≠ gb250)); clear HO_251000; clear HO275; clear HO279; clear BK248; clear BK249; clear BK250; clear HB; have HO_251000 := n0_; have HO275 := n1_; have HO279 := n2_; have BK248 := n3_; have BK249 := n4_; have BK250 := n5_; have HB := n6_; have BK282 := n7_; have GW282 := n8_; have GE282 := n9_; have NB248_282 := n10_; have NB282_248 := n11_; have NB249_282 := n12_; have NB282_249 := n13_; have NB250_282 := n14_; have NB282_250 := n15_; clear n0_ n1_ n2_ n3_ n4_ n5_ n6_ n7_ n8_ n9_ n10_ n11_ n12_ n13_ n14_ n15_; clear hb hbox hg; obtain ⟨Ao71, co71, eo71⟩ := Kd.R_slice HO279.out; subst eo71; have hnb72 := NB282_248.out; have hnc72 := NB248_282.out; have hnb73 := NB282_249.out; have hnc73 := NB249_282.out; have hnb74 := NB282_250.out; have hnc74 := NB250_282.out; have hcz75_0 : w70.cell? ⟨gb282, 0, none⟩ = some (.slice none 0 0) := (blk_cell BK282.out 0).trans rfl; have hcz75_1 : w70.cell? ⟨gb282, 1, none⟩ = some (.int .i64 0) := (blk_cell BK282.out 1).trans rfl; have hfz75_0 := blk_frozen BK282.out 0; have hfz75_1 := blk_frozen BK282.out 1; have hcz76_0 : w70.cell? ⟨gb250, 0, none⟩ = some (.slice Ao16 t252.length co16) := (blk_cell BK250.out 0).trans rfl; have hcz76_1 : w70.cell? ⟨gb250, 1, none⟩ = some (.int .i64 a2_1) := (blk_cell BK250.out 1).trans rfl; have hfz76_0 := blk_frozen BK250.out 0; have hfz76_1 := blk_frozen BK250.out 1; (first | (have hcv77 := own_string (P := Try.prog) Try.underlying26 Try.underlying5 Try.underlying9 (Kd.own_of_R HO279.out); have hcv77n := fun n_ : Nat => own_string (P := Try.prog) Try.underlying26 Try.underlying5 Try.underlying9 (Kd.own_of_R (Kd.R_drewN HO279.out n_))) | (have hcv77 := fun c_ : Nat => Kd.C_string (c := c_) (P := Try.prog) Try.underlying26 Try.underlying5 Try.underlying9 (Kd.V_reads' HO279.out).2.2; have hcv77n := fun (c_ n_ : Nat) => Kd.C_string (c := c_) (P := Try.prog) Try.underlying26 Try.underlying5 Try.underlying9 (Kd.C_drewN (Kd.V_reads' HO279.out).2.2 n_)) | (have hcv77 := Own.V_string (P := Try.prog) Try.underlying26 Try.underlying5 Try.underlying9 HO279.out; have hcv77n := fun (n_ : Nat) => Own.V_string (P := Try.prog) Try.underlying26 Try.underlying5 Try.underlying9 (Kd.V_drewN HO279.out n_))); (try (first | (have hcv77b250 := fun (u0_ u1_ : Value) => own_string (P := Try.prog) Try.underlying26 Try.underlying5 Try.underlying9 (Kd.own_of_R (Kd.R_far (p := ⟨gb250, 1, none⟩) (Kd.R_far (p := ⟨gb250, 0, none⟩) (Kd.R_types HO279.out BK250.out (by decide)) (fun _ hk => hk.2) u0_) (fun _ hk => hk.2) u1_))) | (have hcv77b250 := fun (u0_ u1_ : Value) => Own.V_string (P := Try.prog) Try.underlying26 Try.underlying5 Try.underlying9 (Kd.V_far (p := ⟨gb250, 1, none⟩) (Kd.V_far (p := ⟨gb250, 0, none⟩) HO279.out (fun k_ hk => by first | exact hk.2 | (show k_ ≠ gb250; omega) | (intro e_; simp_all)) u0_) (fun k_ hk => by first | exact hk.2 | (show k_ ≠ gb250; omega) | (intro e_; simp_all)) u1_)))); (try (first | (have hcv77b248 := fun (u0_ u1_ u2_ : Value) => own_string (P := Try.prog) Try.underlying26 Try.underlying5 Try.underlying9 (Kd.own_of_R (Kd.R_far (p := ⟨gb248, 2, none⟩) (Kd.R_far (p := ⟨gb248, 1, none⟩) (Kd.R_far (p := ⟨gb248, 0, none⟩) (Kd.R_types HO279.out BK248.out (by decide)) (fun _ hk => hk.2) u0_) (fun _ hk => hk.2) u1_) (fun _ hk => hk.2) u2_))) | (have hcv77b248 := fun (u0_ u1_ u2_ : Value) => Own.V_string (P := Try.prog) Try.underlying26 Try.underlying5 Try.underlying9 (Kd.V_far (p := ⟨gb248, 2, none⟩) (Kd.V_far (p := ⟨gb248, 1, none⟩) (Kd.V_far (p := ⟨gb248, 0, none⟩) HO279.out (fun k_ hk => by first | exact hk.2 | (show k_ ≠ gb248; omega) | (intro e_; simp_all)) u0_) (fun k_ hk => by first | exact hk.2 | (show k_ ≠ gb248; omega) | (intro e_; simp_all)) u1_) (fun k_ hk => by first | exact hk.2 | (show k_ ≠ gb248; omega) | (intro e_; simp_all)) u2_)))); (try (first | (have hcv77b263 := fun (u0_ u1_ u2_ : Value) => own_string (P := Try.prog) Try.underlying26 Try.underlying5 Try.underlying9 (Kd.own_of_R (Kd.R_far (p := ⟨gb263, 2, none⟩) (Kd.R_far (p := ⟨gb263, 1, none⟩) (Kd.R_far (p := ⟨gb263, 0, none⟩) (Kd.R_types HO279.out BK263.out (by decide)) (fun _ hk => hk.2) u0_) (fun _ hk => hk.2) u1_) (fun _ hk => hk.2) u2_))) | (have hcv77b263 := fun (u0_ u1_ u2_ : Value) => Own.V_string (P := Try.prog) Try.underlying26 Try.underlying5 Try.underlying9 (Kd.V_far (p := ⟨gb263, 2, none⟩) (Kd.V_far (p := ⟨gb263, 1, none⟩) (Kd.V_far (p := ⟨gb263, 0, none⟩) HO279.out (fun k_ hk => by first | exact hk.2 | (show k_ ≠ gb263; omega) | (intro e_; simp_all)) u0_) (fun k_ hk => by first | exact hk.2 | (show k_ ≠ gb263; omega) | (intro e_; simp_all)) u1_) (fun k_ hk => by first | exact hk.2 | (show k_ ≠ gb263; omega) | (intro e_; simp_all)) u2_)))); (try (first | (have hcv77b249 := fun (u0_ u1_ u2_ : Value) => own_string (P := Try.prog) Try.underlying26 Try.underlying5 Try.underlying9 (Kd.own_of_R (Kd.R_far (p := ⟨gb249, 2, none⟩) (Kd.R_far (p := ⟨gb249, 1, none⟩) (Kd.R_far (p := ⟨gb249, 0, none⟩) (Kd.R_types HO279.out BK249.out (by decide)) (fun _ hk => hk.2) u0_) (fun _ hk => hk.2) u1_) (fun _ hk => hk.2) u2_))) | (have hcv77b249 := fun (u0_ u1_ u2_ : Value) => Own.V_string (P := Try.prog) Try.underlying26 Try.underlying5 Try.underlying9 (Kd.V_far (p := ⟨gb249, 2, none⟩) (Kd.V_far (p := ⟨gb249, 1, none⟩) (Kd.V_far (p := ⟨gb249, 0, none⟩) HO279.out (fun k_ hk => by first | exact hk.2 | (show k_ ≠ gb249; omega) | (intro e_; simp_all)) u0_) (fun k_ hk => by first | exact hk.2 | (show k_ ≠ gb249; omega) | (intro e_; simp_all)) u1_) (fun k_ hk => by first | exact hk.2 | (show k_ ≠ gb249; omega) | (intro e_; simp_all)) u2_)))); (try (first | (have hcv77b272 := fun (u0_ u1_ u2_ : Value) => own_string (P := Try.prog) Try.underlying26 Try.underlying5 Try.underlying9 (Kd.own_of_R (Kd.R_far (p := ⟨gb272, 2, none⟩) (Kd.R_far (p := ⟨gb272, 1, none⟩) (Kd.R_far (p := ⟨gb272, 0, none⟩) (Kd.R_types HO279.out BK272.out (by decide)) (fun _ hk => hk.2) u0_) (fun _ hk => hk.2) u1_) (fun _ hk => hk.2) u2_))) | (have hcv77b272 := fun (u0_ u1_ u2_ : Value) => Own.V_string (P := Try.prog) Try.underlying26 Try.underlying5 Try.underlying9 (Kd.V_far (p := ⟨gb272, 2, none⟩) (Kd.V_far (p := ⟨gb272, 1, none⟩) (Kd.V_far (p := ⟨gb272, 0, none⟩) HO279.out (fun k_ hk => by first | exact hk.2 | (show k_ ≠ gb272; omega) | (intro e_; simp_all)) u0_) (fun k_ hk => by first | exact hk.2 | (show k_ ≠ gb272; omega) | (intro e_; simp_all)) u1_) (fun k_ hk => by first | exact hk.2 | (show k_ ≠ gb272; omega) | (intro e_; simp_all)) u2_)))); (try (first | (have hcv77b282 := fun (u0_ u1_ : Value) => own_string (P := Try.prog) Try.underlying26 Try.underlying5 Try.underlying9 (Kd.own_of_R (Kd.R_far (p := ⟨gb282, 1, none⟩) (Kd.R_far (p := ⟨gb282, 0, none⟩) (Kd.R_types HO279.out BK282.out (by decide)) (fun _ hk => hk.2) u0_) (fun _ hk => hk.2) u1_))) | (have hcv77b282 := fun (u0_ u1_ : Value) => Own.V_string (P := Try.prog) Try.underlying26 Try.underlying5 Try.underlying9 (Kd.V_far (p := ⟨gb282, 1, none⟩) (Kd.V_far (p := ⟨gb282, 0, none⟩) HO279.out (fun k_ hk => by first | exact hk.2 | (show k_ ≠ gb282; omega) | (intro e_; simp_all)) u0_) (fun k_ hk => by first | exact hk.2 | (show k_ ≠ gb282; omega) | (intro e_; simp_all)) u1_)))); (first | (have hcv78 := own_string (P := Try.prog) Try.underlying26 Try.underlying5 Try.underlying9 (Kd.own_of_R HO_251000.out); have hcv78n := fun n_ : Nat => own_string (P := Try.prog) Try.underlying26 Try.underlying5 Try.underlying9 (Kd.own_of_R (Kd.R_drewN HO_251000.out n_))) | (have hcv78 := fun c_ : Nat => Kd.C_string (c := c_) (P := Try.prog) Try.underlying26 Try.underlying5 Try.underlying9 (Kd.V_reads' HO_251000.out).2.2; have hcv78n := fun (c_ n_ : Nat) => Kd.C_string (c := c_) (P := Try.prog) Try.underlying26 Try.underlying5 Try.underlying9 (Kd.C_drewN (Kd.V_reads' HO_251000.out).2.2 n_)) | (have hcv78 := Own.V_string (P := Try.prog) Try.underlying26 Try.underlying5 Try.underlying9 HO_251000.out; have hcv78n := fun (n_ : Nat) => Own.V_string (P := Try.prog) Try.underlying26 Try.underlying5 Try.underlying9 (Kd.V_drewN HO_251000.out n_))); (try (first | (have hcv78b250 := fun (u0_ u1_ : Value) => own_string (P := Try.prog) Try.underlying26 Try.underlying5 Try.underlying9 (Kd.own_of_R (Kd.R_far (p := ⟨gb250, 1, none⟩) (Kd.R_far (p := ⟨gb250, 0, none⟩) (Kd.R_types HO_251000.out BK250.out (by decide)) (fun _ hk => hk.2) u0_) (fun _ hk => hk.2) u1_))) | (have hcv78b250 := fun (u0_ u1_ : Value) => Own.V_string (P := Try.prog) Try.underlying26 Try.underlying5 Try.underlying9 (Kd.V_far (p := ⟨gb250, 1, none⟩) (Kd.V_far (p := ⟨gb250, 0, none⟩) HO_251000.out (fun k_ hk => by first | exact hk.2 | (show k_ ≠ gb250; omega) | (intro e_; simp_all)) u0_) (fun k_ hk => by first | exact hk.2 | (show k_ ≠ gb250; omega) | (intro e_; simp_all)) u1_)))); (try (first | (have hcv78b248 := fun (u0_ u1_ u2_ : Value) => own_string (P := Try.prog) Try.underlying26 Try.underlying5 Try.underlying9 (Kd.own_of_R (Kd.R_far (p := ⟨gb248, 2, none⟩) (Kd.R_far (p := ⟨gb248, 1, none⟩) (Kd.R_far (p := ⟨gb248, 0, none⟩) (Kd.R_types HO_251000.out BK248.out (by decide)) (fun _ hk => hk.2) u0_) (fun _ hk => hk.2) u1_) (fun _ hk => hk.2) u2_))) | (have hcv78b248 := fun (u0_ u1_ u2_ : Value) => Own.V_string (P := Try.prog) Try.underlying26 Try.underlying5 Try.underlying9 (Kd.V_far (p := ⟨gb248, 2, none⟩) (Kd.V_far (p := ⟨gb248, 1, none⟩) (Kd.V_far (p := ⟨gb248, 0, none⟩) HO_251000.out (fun k_ hk => by first | exact hk.2 | (show k_ ≠ gb248; omega) | (intro e_; simp_all)) u0_) (fun k_ hk => by first | exact hk.2 | (show k_ ≠ gb248; omega) | (intro e_; simp_all)) u1_) (fun k_ hk => by first | exact hk.2 | (show k_ ≠ gb248; omega) | (intro e_; simp_all)) u2_)))); (try (first | (have hcv78b263 := fun (u0_ u1_ u2_ : Value) => own_string (P := Try.prog) Try.underlying26 Try.underlying5 Try.underlying9 (Kd.own_of_R (Kd.R_far (p := ⟨gb263, 2, none⟩) (Kd.R_far (p := ⟨gb263, 1, none⟩) (Kd.R_far (p := ⟨gb263, 0, none⟩) (Kd.R_types HO_251000.out BK263.out (by decide)) (fun _ hk => hk.2) u0_) (fun _ hk => hk.2) u1_) (fun _ hk => hk.2) u2_))) | (have hcv78b263 := fun (u0_ u1_ u2_ : Value) => Own.V_string (P := Try.prog) Try.underlying26 Try.underlying5 Try.underlying9 (Kd.V_far (p := ⟨gb263, 2, none⟩) (Kd.V_far (p := ⟨gb263, 1, none⟩) (Kd.V_far (p := ⟨gb263, 0, none⟩) HO_251000.out (fun k_ hk => by first | exact hk.2 | (show k_ ≠ gb263; omega) | (intro e_; simp_all)) u0_) (fun k_ hk => by first | exact hk.2 | (show k_ ≠ gb263; omega) | (intro e_; simp_all)) u1_) (fun k_ hk => by first | exact hk.2 | (show k_ ≠ gb263; omega) | (intro e_; simp_all)) u2_)))); (try (first | (have hcv78b249 := fun (u0_ u1_ u2_ : Value) => own_string (P := Try.prog) Try.underlying26 Try.underlying5 Try.underlying9 (Kd.own_of_R (Kd.R_far (p := ⟨gb249, 2, none⟩) (Kd.R_far (p := ⟨gb249, 1, none⟩) (Kd.R_far (p := ⟨gb249, 0, none⟩) (Kd.R_types HO_251000.out BK249.out (by decide)) (fun _ hk => hk.2) u0_) (fun _ hk => hk.2) u1_) (fun _ hk => hk.2) u2_))) | (have hcv78b249 := fun (u0_ u1_ u2_ : Value) => Own.V_string (P := Try.prog) Try.underlying26 Try.underlying5 Try.underlying9 (Kd.V_far (p := ⟨gb249, 2, none⟩) (Kd.V_far (p := ⟨gb249, 1, none⟩) (Kd.V_far (p := ⟨gb249, 0, none⟩) HO_251000.out (fun k_ hk => by first | exact hk.2 | (show k_ ≠ gb249; omega) | (intro e_; simp_all)) u0_) (fun k_ hk => by first | exact hk.2 | (show k_ ≠ gb249; omega) | (intro e_; simp_all)) u1_) (fun k_ hk => by first | exact hk.2 | (show k_ ≠ gb249; omega) | (intro e_; simp_all)) u2_)))); (try (first | (have hcv78b272 := fun (u0_ u1_ u2_ : Value) => own_string (P := Try.prog) Try.underlying26 Try.underlying5 Try.underlying9 (Kd.own_of_R (Kd.R_far (p := ⟨gb272, 2, none⟩) (Kd.R_far (p := ⟨gb272, 1, none⟩) (Kd.R_far (p := ⟨gb272, 0, none⟩) (Kd.R_types HO_251000.out BK272.out (by decide)) (fun _ hk => hk.2) u0_) (fun _ hk => hk.2) u1_) (fun _ hk => hk.2) u2_))) | (have hcv78b272 := fun (u0_ u1_ u2_ : Value) => Own.V_string (P := Try.prog) Try.underlying26 Try.underlying5 Try.underlying9 (Kd.V_far (p := ⟨gb272, 2, none⟩) (Kd.V_far (p := ⟨gb272, 1, none⟩) (Kd.V_far (p := ⟨gb272, 0, none⟩) HO_251000.out (fun k_ hk => by first | exact hk.2 | (show k_ ≠ gb272; omega) | (intro e_; simp_all)) u0_) (fun k_ hk => by first | exact hk.2 | (show k_ ≠ gb272; omega) | (intro e_; simp_all)) u1_) (fun k_ hk => by first | exact hk.2 | (show k_ ≠ gb272; omega) | (intro e_; simp_all)) u2_)))); (try (first | (have hcv78b282 := fun (u0_ u1_ : Value) => own_string (P := Try.prog) Try.underlying26 Try.underlying5 Try.underlying9 (Kd.own_of_R (Kd.R_far (p := ⟨gb282, 1, none⟩) (Kd.R_far (p := ⟨gb282, 0, none⟩) (Kd.R_types HO_251000.out BK282.out (by decide)) (fun _ hk => hk.2) u0_) (fun _ hk => hk.2) u1_))) | (have hcv78b282 := fun (u0_ u1_ : Value) => Own.V_string (P := Try.prog) Try.underlying26 Try.underlying5 Try.underlying9 (Kd.V_far (p := ⟨gb282, 1, none⟩) (Kd.V_far (p := ⟨gb282, 0, none⟩) HO_251000.out (fun k_ hk => by first | exact hk.2 | (show k_ ≠ gb282; omega) | (intro e_; simp_all)) u0_) (fun k_ hk => by first | exact hk.2 | (show k_ ≠ gb282; omega) | (intro e_; simp_all)) u1_))))))
                    go_ret
                    exact ⟨by first | rfl | (simp [errW_none, errW_some] <;> rfl) | (simp [*, errW_none, errW_some] <;> rfl), by repeat (first | (with_reducible first | exact HB.out | apply below_alloc | apply pw_below_drewN | apply below_drew1 | refine below_set ?_ GE248.out | refine below_set ?_ GE249.out | refine below_set ?_ GE250.out | refine below_set ?_ GE282.out) | exact HB.out)⟩
                · rw [if_neg c62] at H
                  have c62b0 : (t281 == 0) = false := beq_eq_false_iff_ne.mpr c62
                  have c62b1 : (t281 != 0) = true := bne_iff_ne.mpr c62
                  exact absurd (Option.some.inj H) (by rw [hr_.out]; decide)
              · rw [if_neg c61] at H
                have c61b0 : ((strOfNums t277).toList == (strOfNums t252).toList) = false := beq_eq_false_iff_ne.mpr c61
                have c61b1 : ((strOfNums t277).toList != (strOfNums t252).toList) = true := bne_iff_ne.mpr c61
                exact absurd (Option.some.inj H) (by rw [hr_.out]; decide)
            · rw [if_neg c60] at H
              have c60b0 : (t280 == a2_1) = false := beq_eq_false_iff_ne.mpr c60
              have c60b1 : (t280 != a2_1) = true := bne_iff_ne.mpr c60
              exact absurd (Option.some.inj H) (by rw [hr_.out]; decide)
          · rw [if_neg c58] at H
            have c58b0 : (t276 == 0) = false := beq_eq_false_iff_ne.mpr c58
            have c58b1 : (t276 != 0) = true := bne_iff_ne.mpr c58
            obtain rfl := Option.some.inj H
            have hnb79 := NB250_248.out
            have hnc79 := NB248_250.out
            have hnb80 := NB250_249.out
            have hnc80 := NB249_250.out
            have hcz81_0 : wc.cell? ⟨gb250, 0, none⟩ = some (.slice Ao16 t252.length co16) := (blk_cell BK250.out 0).trans rfl
            have hcz81_1 : wc.cell? ⟨gb250, 1, none⟩ = some (.int .i64 a2_1) := (blk_cell BK250.out 1).trans rfl
            have hfz81_0 := blk_frozen BK250.out 0
            have hfz81_1 := blk_frozen BK250.out 1
            go_wp2_with (first | ((with_reducible refine gate_callee (f := 14) rfl ?_); refine goesL_ (some 73) rfl rfl Try.func14 (by kernel_rfl) rfl #[.agg #[.slice Ao16 t252.length co16, .int .i64 a2_1]] rfl (by (try simp only [List.map_toArray, List.map_cons, List.map_nil]); first | done | rfl | (simp only [List.length_drop, List.length_take]; rfl)) ?_; (with_reducible refine (inode_PutExtent.calls kj36 _ _ t252 a2_1 t273 t276 _ ?side1 ?side2 A57.out).mono ?_); (case side1 => repeat (first | exact (Kd.V_reads' HO_251000.out).2.2 | (with_reducible refine Kd.C_alloc ?_ _) | (with_reducible refine Kd.C_drewN ?_ _) | (with_reducible refine Kd.C_drew ?_))); (case side2 => exact (Kd.V_reads' HO_251000.out).2.1); rintro e w82 ⟨v274, rfl, ho0, hb⟩; refine ⟨_, rfl, ?_⟩; have n0_ := Aside0.mk (Kd.V_below (by (with_reducible repeat (first | apply Kd.V_alloc | apply Kd.V_drewN | apply Kd.V_drew)); exact HO_251000.out) hb); have n1_ := Aside0.mk (Kd.V_lower (Kd.V_mono (ok' := fun k_ => k_ ≠ gb248 ∧ k_ ≠ gb249 ∧ k_ ≠ gb250) ho0 (fun k_ hk_ => ⟨(Kd.freshB (g := gb248) (o := .cells #[.int .i64 a0_0, .int .i64 a0_1, .int .i64 a0_2] 23 (0, 0)) (by (with_reducible repeat (first | refine blk_drewN ?_ _ | refine blk_drew ?_ | refine blk_alloc ?_ _)); exact BK248.out) k_ hk_), (Kd.freshB (g := gb249) (o := .cells #[.string a1_0, .int .i64 a1_1, .int .i64 a1_2] 25 (0, 0)) (by (with_reducible repeat (first | refine blk_drewN ?_ _ | refine blk_drew ?_ | refine blk_alloc ?_ _)); exact BK249.out) k_ hk_), (Kd.freshB (g := gb250) (o := .cells #[.slice Ao16 t252.length co16, .int .i64 a2_1] 28 (0, 0)) (by (with_reducible repeat (first | refine blk_drewN ?_ _ | refine blk_drew ?_ | refine blk_alloc ?_ _)); exact BK250.out) k_ hk_)⟩)) (below_size (by repeat (first | (with_reducible first | exact HB.out | apply below_alloc | apply pw_below_drewN | apply below_drew1 | refine below_set ?_ GE248.out | refine below_set ?_ GE249.out | refine below_set ?_ GE250.out) | exact HB.out)))); have n2_ := Aside0.mk (blk_below (g := gb248) (o := .cells #[.int .i64 a0_0, .int .i64 a0_1, .int .i64 a0_2] 23 (0, 0)) (by (with_reducible repeat (first | refine blk_drewN ?_ _ | refine blk_drew ?_ | refine blk_alloc ?_ _)); exact BK248.out) hb); have n3_ := Aside0.mk (blk_below (g := gb249) (o := .cells #[.string a1_0, .int .i64 a1_1, .int .i64 a1_2] 25 (0, 0)) (by (with_reducible repeat (first | refine blk_drewN ?_ _ | refine blk_drew ?_ | refine blk_alloc ?_ _)); exact BK249.out) hb); have n4_ := Aside0.mk (blk_below (g := gb250) (o := .cells #[.slice Ao16 t252.length co16, .int .i64 a2_1] 28 (0, 0)) (by (with_reducible repeat (first | refine blk_drewN ?_ _ | refine blk_drew ?_ | refine blk_alloc ?_ _)); exact BK250.out) hb); have n5_ := Aside0.mk (below_step (by repeat (first | (with_reducible first | exact HB.out | apply below_alloc | apply pw_below_drewN | apply below_drew1 | refine below_set ?_ GE248.out | refine below_set ?_ GE249.out | refine below_set ?_ GE250.out) | exact HB.out)) hb); clear HO_251000; clear BK248; clear BK249; clear BK250; clear HB; have HO_251000 := n0_; have HO275 := n1_; have BK248 := n2_; have BK249 := n3_; have BK250 := n4_; have HB := n5_; clear n0_ n1_ n2_ n3_ n4_ n5_; (try clear hb); (try clear hb2); (try clear hk); (try clear hi); (try clear ho0)))
            go_ret
            exact ⟨by first | rfl | (simp [errW_none, errW_some] <;> rfl) | (simp [*, errW_none, errW_some] <;> rfl), by repeat (first | (with_reducible first | exact HB.out | apply below_alloc | apply pw_below_drewN | apply below_drew1 | refine below_set ?_ GE248.out | refine below_set ?_ GE249.out | refine below_set ?_ GE250.out) | exact HB.out)⟩

/-- THE ONE PURE STATEMENT of cambiumlaw13_InodeBack: yours. -/
def cambiumlaw13_InodeBack.Pure : Prop := ∀ (a0_0 : Int) (a0_1 : Int) (a0_2 : Int) (a1_0 : ByteArray) (a1_1 : Int) (a1_2 : Int) (l2_0 : List Int) (a2_1 : Int), (Lit.int .i64 a0_0).wf = true → (Lit.int .i64 a0_1).wf = true → (Lit.int .i64 a0_2).wf = true → a1_0.size ≤ maxLen → (Lit.int .i64 a1_1).wf = true → (Lit.int .i64 a1_2).wf = true → (l2_0.length ≤ maxLen ∧ ∀ y0_ ∈ l2_0, (Lit.int .u8 y0_).wf = true) → (Lit.int .i64 a2_1).wf = true → ∃ k, cambiumlaw13_InodeBack.f k a0_0 a0_1 a0_2 a1_0 a1_1 a1_2 l2_0 a2_1 = some true
theorem cambiumlaw13_InodeBack.walk (P : cambiumlaw13_InodeBack.Pure) (a0_0 : Int) (a0_1 : Int) (a0_2 : Int) (a1_0 : ByteArray) (a1_1 : Int) (a1_2 : Int) (A2_0 : Option Addr) (c2_0 : Nat) (l2_0 : List Int) (a2_1 : Int) (w : World) (w0_0 : (Lit.int .i64 a0_0).wf = true) (w0_1 : (Lit.int .i64 a0_1).wf = true) (w0_2 : (Lit.int .i64 a0_2).wf = true) (w1_0 : a1_0.size ≤ maxLen) (w1_1 : (Lit.int .i64 a1_1).wf = true) (w1_2 : (Lit.int .i64 a1_2).wf = true) (hr2_0 : Kd.C (Kd.int .u8) w A2_0 l2_0.length l2_0) (hc2_0 : l2_0.length ≤ c2_0) (w2_0 : (l2_0.length ≤ maxLen ∧ ∀ y0_ ∈ l2_0, (Lit.int .u8 y0_).wf = true)) (w2_1 : (Lit.int .i64 a2_1).wf = true) :
    Calls Try.prog 6 #[.agg #[.int .i64 a0_0, .int .i64 a0_1, .int .i64 a0_2], .agg #[.string a1_0, .int .i64 a1_1, .int .i64 a1_2], .agg #[.slice A2_0 l2_0.length c2_0, .int .i64 a2_1]] w fun e w' => e = .returned (.bool true) ∧ Below w.heap.size w w' := by
  obtain ⟨k, h⟩ := P a0_0 a0_1 a0_2 a1_0 a1_1 a1_2 l2_0 a2_1 w0_0 w0_1 w0_2 w1_0 w1_1 w1_2 w2_0 w2_1
  refine (cambiumlaw13_InodeBack.calls k a0_0 a0_1 a0_2 a1_0 a1_1 a1_2 A2_0 c2_0 l2_0 a2_1 true w hr2_0 hc2_0 ⟨rfl⟩ h).mono ?_
  rintro e w' ⟨rfl, hd⟩
  exact ⟨rfl, hd⟩

/-! ### cambiumref01_Put: function 28 -/
mutual
def cambiumref01_Put.j0 : Nat → Int → Int → List Int → Bool → Option (List Int)
  | 0, _, _, _, _ => none
  | k + 1, x1, x2, x7, x17 => if x17 = true then (some x7) else (cambiumref01_Put.l0 k x1 x7 (wrap64 (x2 - 1)))
def cambiumref01_Put.l0 : Nat → Int → List Int → Int → Option (List Int)
  | 0, _, _, _ => none
  | k + 1, x1, x7, x8 => if x8 ≥ 0 then (if 0 ≤ (wrap64 (8 * x8)) then (if x7.length < 140737488355328 then (cambiumref01_Put.l0 k x1 (x7 ++ [(shr .u64 (IntKind.u64.wrap (x1)) (wrap64 (8 * x8))) % 256]) (wrap64 (x8 - 1))) else (none)) else (none)) else (some x7)
end
def cambiumref01_Put.f (k : Nat) (l0 : List Int) (a1 : Int) (a2 : Int) : Option (List Int) := (some (([] : List Int) : List Int)).bind fun y283 => (if y283.length + l0.length < 140737488355328 then ((some (y283 ++ l0 : List Int)).bind fun y286 => (if a2 < 1 then (cambiumref01_Put.j0 k a1 a2 y286 true) else (cambiumref01_Put.j0 k a1 a2 y286 (decide (a2 > 8))))) else (none))
theorem cambiumref01_Put.mono_l : ∀ k, (∀ y0 y1 y2 y3, LeO (cambiumref01_Put.j0 k y0 y1 y2 y3) (cambiumref01_Put.j0 (k + 1) y0 y1 y2 y3)) ∧ (∀ y0 y1 y2, LeO (cambiumref01_Put.l0 k y0 y1 y2) (cambiumref01_Put.l0 (k + 1) y0 y1 y2))
  | 0 => ⟨fun _ _ _ _ r h => by simp [cambiumref01_Put.j0] at h, fun _ _ _ r h => by simp [cambiumref01_Put.l0] at h⟩
  | k + 1 => by
    obtain ⟨ih0, ih1⟩ := cambiumref01_Put.mono_l k
    refine ⟨?_, ?_⟩
    · intro y0 y1 y2 y3
      unfold cambiumref01_Put.j0
      repeat' first
      | (with_reducible exact ih0 _ _ _ _)
      | (with_reducible exact ih1 _ _ _)
      | (with_reducible exact LeO.refl _)
      | (with_reducible exact LeO.none _)
      | (with_reducible refine LeO.ite ?_ ?_)
      | (with_reducible refine LeO.bind ?_ (fun _ => ?_))
      | exact ih0 _ _ _ _
      | exact ih1 _ _ _
      | exact LeO.none _
      | refine LeO.ite ?_ ?_
      | refine LeO.bind ?_ (fun _ => ?_)
    · intro y0 y1 y2
      unfold cambiumref01_Put.l0
      repeat' first
      | (with_reducible exact ih0 _ _ _ _)
      | (with_reducible exact ih1 _ _ _)
      | (with_reducible exact LeO.refl _)
      | (with_reducible exact LeO.none _)
      | (with_reducible refine LeO.ite ?_ ?_)
      | (with_reducible refine LeO.bind ?_ (fun _ => ?_))
      | exact ih0 _ _ _ _
      | exact ih1 _ _ _
      | exact LeO.none _
      | refine LeO.ite ?_ ?_
      | refine LeO.bind ?_ (fun _ => ?_)
theorem cambiumref01_Put.mono : ∀ a0 a1 a2 k, LeO (cambiumref01_Put.f k a0 a1 a2) (cambiumref01_Put.f (k + 1) a0 a1 a2) := by
  intro a0 a1 a2 k
  obtain ⟨ih0, ih1⟩ := cambiumref01_Put.mono_l k
  unfold cambiumref01_Put.f
  repeat' first
      | (with_reducible exact ih0 _ _ _ _)
      | (with_reducible exact ih1 _ _ _)
      | (with_reducible exact LeO.refl _)
      | (with_reducible exact LeO.none _)
      | (with_reducible refine LeO.ite ?_ ?_)
      | (with_reducible refine LeO.bind ?_ (fun _ => ?_))
      | exact ih0 _ _ _ _
      | exact ih1 _ _ _
      | exact LeO.none _
      | refine LeO.ite ?_ ?_
      | refine LeO.bind ?_ (fun _ => ?_)
set_option maxHeartbeats 8000000 in
set_option maxRecDepth 100000 in
theorem cambiumref01_Put.calls (k : Nat) (A0 : Option Addr) (c0 : Nat) (l0 : List Int) (a1 : Int) (a2 : Int) (r : List Int) (w : World) (hr0 : Kd.C (Kd.int .u8) w A0 l0.length l0) (hc0 : l0.length ≤ c0) (h : cambiumref01_Put.f k l0 a1 a2 = some r) :
    Calls Try.prog 28 #[.slice A0 l0.length c0, .int .i64 a1, .int .i64 a2] w fun e w' => ∃ v0_ : Value, e = .returned (v0_) ∧ Kd.R (Kd.int .u8) 5 w' w.heap.size (fun _ => True) v0_ r ∧ Below w.heap.size w w' := by
  have HR0 := Aside0.mk hr0
  have HC0 := Aside0.mk hc0
  clear hr0 hc0
  have HB := Aside0.mk (Below.refl w.heap.size w)
  have H : ((some (([] : List Int) : List Int)).bind fun y283 => (if y283.length + l0.length < 140737488355328 then ((some (y283 ++ l0 : List Int)).bind fun y286 => (if a2 < 1 then (cambiumref01_Put.j0 k a1 a2 y286 true) else (cambiumref01_Put.j0 k a1 a2 y286 (decide (a2 > 8))))) else (none))) = some r := h
  clear h
  obtain ⟨y283, hy283⟩ : ∃ y_ : List Int, y_ = (([] : List Int)) := ⟨_, rfl⟩
  replace H : (if y283.length + l0.length < 140737488355328 then ((some (y283 ++ l0 : List Int)).bind fun y286 => (if a2 < 1 then (cambiumref01_Put.j0 k a1 a2 y286 true) else (cambiumref01_Put.j0 k a1 a2 y286 (decide (a2 > 8))))) else (none)) = some r := by first | (rw [hy283]; with_reducible exact H) | (have H2_ := (Option.bind_some _ _).symm.trans H; rw [hy283]; with_reducible exact H2_) | (have H2_ := (Option.bind_some _ _).symm.trans H; with_reducible exact H2_) | with_reducible exact H | (rw [hy283]; exact H) | exact H
  have Ny283 := Aside0.mk hy283
  clear hy283
  by_cases c4 : y283.length + l0.length < 140737488355328
  · rw [if_pos c4] at H
    have LMc4 := Aside0.mk c4
    clear c4
    obtain ⟨y286, hy286⟩ : ∃ y_ : List Int, y_ = (y283 ++ l0) := ⟨_, rfl⟩
    replace H : (if a2 < 1 then (cambiumref01_Put.j0 k a1 a2 y286 true) else (cambiumref01_Put.j0 k a1 a2 y286 (decide (a2 > 8)))) = some r := by first | (rw [hy286]; with_reducible exact H) | (have H2_ := (Option.bind_some _ _).symm.trans H; rw [hy286]; with_reducible exact H2_) | (have H2_ := (Option.bind_some _ _).symm.trans H; with_reducible exact H2_) | with_reducible exact H | (rw [hy286]; exact H) | exact H
    have Ny286 := Aside0.mk hy286
    clear hy286
    have HC5 := Aside0.mk H
    clear H
    go_enter Try.func28, Try.ntmps28
    go_upto_region 2 with (first | ((with_reducible refine gate_dst (N := 9) rfl ?_); refine Kd.R_lit (Kd.int .u8) _ 5 ?hg (N := 9) ?hd (xs := ([] : List Int)) (inner := []) (ok := fun _ => True) (okp := fun _ => True) ?hr ?hp (fun _ hk => hk) trivial (Below.refl _ _) (Nat.le_refl _) (by simp) ?_; (case hd => rfl); (case hg => rfl); (case hr => first | (go_simp; done) | (go_simp; rfl)); (case hp => exact (Reps.none _ _)); intro v284 w6 ho7 hb hg_ hnew_; clear hg_ hnew_; (first | rw [← Ny283.out] at ho7 | (simp only [Int.reduceToNat] at ho7; rw [← Ny283.out] at ho7)); have n0_ := Aside0.mk (Kd.R_lower ho7 (below_size (by repeat (first | (with_reducible first | exact HB.out | apply below_alloc | apply pw_below_drewN | apply below_drew1) | exact HB.out)))); have n1_ := Aside0.mk (below_step (by repeat (first | (with_reducible first | exact HB.out | apply below_alloc | apply pw_below_drewN | apply below_drew1) | exact HB.out)) hb); clear HB; have HO285 := n0_; have HB := n1_; clear n0_ n1_; clear hb ho7) | ((with_reducible refine gate_builtin (b := .append) (xs := #[.tmp 9, .tmp 10]) rfl ?_); at_builtin; refine Kd.R_append_rows (Kd.int .u8) (w0 := w) w.heap.size rfl (.tmp 9) (.tmp 10) 26 5 (.int .u8 0) 1 rfl Try.underlying26 info5 rfl (by decide) (by omega) v284 y283 l0 _ _ _ (fun _ => True) (fun _ => False) rfl rfl ?aO ?aR (fun _ _ h => h) (fun _ h => h.elim) ?aF ?aB ?aS ?aL ?_; (case aR => repeat (first | exact (Kd.C_below HR0.out HB.out) | (with_reducible refine Kd.C_alloc ?_ _) | (with_reducible refine Kd.C_drewN ?_ _) | (with_reducible refine Kd.C_drew ?_))); (case aB => exact (by repeat (first | (with_reducible first | exact HB.out | apply below_alloc | apply pw_below_drewN | apply below_drew1) | exact HB.out))); (case aF => exact (fun _ _ => trivial)); (case aO => exact (by (with_reducible repeat (first | apply Kd.R_alloc | apply Kd.R_drewN | apply Kd.R_drew)); exact HO285.out)); (case aS => exact (below_size (by repeat (first | (with_reducible first | exact HB.out | apply below_alloc | apply pw_below_drewN | apply below_drew1) | exact HB.out)))); (case aL => have := LMc4.out; omega); intro v287 w8 ho hb hg hat; rw [← Ny286.out] at ho; have n0_ := Aside0.mk (hb); have n1_ := Aside0.mk (ho); clear HB; clear HO285; have HB := n0_; have HO288 := n1_; clear n0_ n1_; clear ho hb hg hat))
    (try simp only [Act.put, List.setIfInBounds_toArray, List.set_cons_zero, List.set_cons_succ])
    go_cut [17] (fun v17 wc => ∃ (kq : Nat) (x17_4 : Bool), v17 = .bool x17_4 ∧ Aside0 (cambiumref01_Put.j0 kq a1 a2 y286 x17_4 = some r) ∧ Aside0 (kq ≤ k) ∧ Aside0 (Kd.R (Kd.int .u8) 5 wc w.heap.size (fun _ => True) v287 y286) ∧ Aside0 (Below w.heap.size w wc))
    case first =>
      have H := HC5.out
      clear HC5
      by_cases c9 : a2 < 1
      · rw [if_pos c9] at H
        have c9b0 : decide (a2 < 1) = true := decide_eq_true c9
        clear c9
        (first | rw [c9b0] | (simp only [i64_w, i32_w]; rw [c9b0]) | skip)
        have H' := Aside0.mk H
        clear H
        go_wp2
        go_meet
        case rel => exact ⟨_, (true), (by first | rfl | (simp; done) | (simp [*]; done)), H', ⟨by first | omega | exact Nat.le_refl _⟩, ⟨by (with_reducible repeat (first | apply Kd.R_alloc | apply Kd.R_drewN | apply Kd.R_drew)); exact HO288.out⟩, ⟨by repeat (first | (with_reducible first | exact HB.out | apply below_alloc | apply pw_below_drewN | apply below_drew1) | exact HB.out)⟩⟩
      · rw [if_neg c9] at H
        have c9b0 : decide (a2 < 1) = false := decide_eq_false c9
        clear c9
        (first | rw [c9b0] | (simp only [i64_w, i32_w]; rw [c9b0]) | skip)
        have H' := Aside0.mk H
        clear H
        go_wp2
        go_meet
        case rel => exact ⟨_, (decide (a2 > 8)), (by first | rfl | (simp; done) | (simp [*]; done)), H', ⟨by first | omega | exact Nat.le_refl _⟩, ⟨by (with_reducible repeat (first | apply Kd.R_alloc | apply Kd.R_drewN | apply Kd.R_drew)); exact HO288.out⟩, ⟨by repeat (first | (with_reducible first | exact HB.out | apply below_alloc | apply pw_below_drewN | apply below_drew1) | exact HB.out)⟩⟩
    case rest =>
      clear HC5
      try clear c2
      try clear p2
      try clear c4
      try clear c9
      try clear c9b0
      obtain ⟨kq, x17_4, rfl, HA, HJ4, HO_7, HB⟩ := hcut
      cases kq with
      | zero => exact absurd HA.out (by simp [cambiumref01_Put.j0])
      | succ kj4 =>
        have H := HA.out
        clear HA
        simp only [cambiumref01_Put.j0] at H
        by_cases c10 : x17_4 = true
        · subst c10
          have H1 : (some y286) = some r := by rw [if_pos rfl] at H; exact H
          clear H
          have H := H1
          clear H1
          obtain rfl := Option.some.inj H
          go_wp2
          go_ret
          exact ⟨_, by first | rfl | (simp [errW_none, errW_some] <;> rfl) | (simp [*, errW_none, errW_some] <;> rfl), by (with_reducible repeat (first | apply Kd.R_alloc | apply Kd.R_drewN | apply Kd.R_drew)); exact HO_7.out, by repeat (first | (with_reducible first | exact HB.out | apply below_alloc | apply pw_below_drewN | apply below_drew1) | exact HB.out)⟩
        · replace c10 := Bool.eq_false_iff.mpr c10
          subst c10
          have H1 : (cambiumref01_Put.l0 kj4 a1 y286 (wrap64 (a2 - 1))) = some r := by rw [if_neg (show ¬ (false = true) by decide)] at H; exact H
          clear H
          have H := H1
          clear H1
          have H' := Aside0.mk H
          clear H
          go_wp2
          go_loopg [7, 8] kj4 (fun kq v7 v8 w' => ∃ (x7_2 : List Int) (x8_2 : Int), v8 = .int .i64 x8_2 ∧ Aside0 (cambiumref01_Put.l0 kq a1 x7_2 x8_2 = some r) ∧ Aside0 (kq ≤ kj4) ∧ Aside0 (Kd.R (Kd.int .u8) 5 w' w.heap.size (fun _ => True) v7 x7_2) ∧ Aside0 (Below w.heap.size w w'))
          case atStart => exact ⟨(y286), (wrap64 (a2 - 1)), (by first | rfl | (simp; done) | (simp [*]; done)), H', ⟨Nat.le_refl _⟩, ⟨by (with_reducible repeat (first | apply Kd.R_alloc | apply Kd.R_drewN | apply Kd.R_drew)); exact HO_7.out⟩, ⟨by repeat (first | (with_reducible first | exact HB.out | apply below_alloc | apply pw_below_drewN | apply below_drew1) | exact HB.out)⟩⟩
          case round =>
            clear H'
            try clear c1
            try clear c2
            try clear p2
            try clear c4
            try clear p6
            try clear c9
            try clear c9b0
            try clear c10
            try clear p2
            obtain ⟨x7_2, x8_2, rfl, HA, HK2, HO_7, HB⟩ := hrel
            cases gk with
            | zero => exact absurd HA.out (by simp [cambiumref01_Put.l0])
            | succ k2 =>
              have H := HA.out
              clear HA
              simp only [cambiumref01_Put.l0] at H
              by_cases c11 : x8_2 ≥ 0
              · rw [if_pos c11] at H
                have c11b0 : decide (0 ≤ x8_2) = true := decide_eq_true c11
                clear c11
                obtain ⟨ji12, hji12⟩ : ∃ j_ : Int, (wrap64 (8 * x8_2)) = j_ := ⟨_, rfl⟩
                replace H : (if 0 ≤ (ji12) then (if x7_2.length < 140737488355328 then (cambiumref01_Put.l0 k2 a1 (x7_2 ++ [(shr .u64 (IntKind.u64.wrap (a1)) (ji12)) % 256]) (wrap64 (x8_2 - 1))) else (none)) else (none)) = some r := by first | (rw [hji12] at H; exact H) | (simp only [hji12] at H ⊢; exact H)
                have hji12w : (IntKind.i64.wrap (8 * x8_2)) = ji12 := (i64_w _).trans hji12
                by_cases c13 : 0 ≤ (ji12)
                · rw [if_pos c13] at H
                  have c13b0 := eq_true c13
                  have c13b1 : decide (0 ≤ (ji12)) = true := decide_eq_true c13
                  clear c13
                  obtain ⟨ji14, hji14⟩ : ∃ j_ : Int, (shr .u64 (IntKind.u64.wrap (a1)) (ji12)) = j_ := ⟨_, rfl⟩
                  replace H : (if x7_2.length < 140737488355328 then (cambiumref01_Put.l0 k2 a1 (x7_2 ++ [(ji14) % 256]) (wrap64 (x8_2 - 1))) else (none)) = some r := by first | (rw [hji14] at H; exact H) | (simp only [hji14] at H ⊢; exact H)
                  have hji14_ : ((IntKind.u64.wrap (a1)) / 2 ^ min (ji12).toNat 64) = ji14 := hji14
                  have hji14z : (ji12) ≤ 64 → ((IntKind.u64.wrap (a1)) / 2 ^ (ji12).toNat) = ji14 := shr_small hji14
                  by_cases c15 : x7_2.length < 140737488355328
                  · rw [if_pos c15] at H
                    have LMc15 := Aside0.mk c15
                    clear c15
                    obtain ⟨y289, hy289⟩ : ∃ y_ : List Int, y_ = (x7_2 ++ [(ji14) % 256]) := ⟨_, rfl⟩
                    replace H : (cambiumref01_Put.l0 k2 a1 y289 (wrap64 (x8_2 - 1))) = some r := by first | (rw [hy289]; with_reducible exact H) | (have H2_ := (Option.bind_some _ _).symm.trans H; rw [hy289]; with_reducible exact H2_) | (have H2_ := (Option.bind_some _ _).symm.trans H; with_reducible exact H2_) | with_reducible exact H | (rw [hy289]; exact H) | exact H
                    have Ny289 := Aside0.mk hy289
                    clear hy289
                    have H' := Aside0.mk H
                    clear H
                    go_wp2_with (first | ((with_reducible refine gate_builtin (b := .append) (xs := #[.tmp 25, .tmp 32]) rfl ?_); at_builtin; refine Kd.R_append (Kd.int .u8) (w0 := w) w.heap.size rfl (.tmp 25) (.tmp 32) 26 5 (.int .u8 0) 1 rfl Try.underlying26 info5 rfl (by decide) (by omega) u7 x7_2 ((ji14) % 256) [.int .u8 ((ji14) % 256)] (fun _ => True) (fun _ => False) rfl rfl ?aP (fun _ hk => hk.elim) ?aF ?aO ?aB ?aS ?aL ?_; (case aP => exact rfl); (case aB => exact (by repeat (first | (with_reducible first | exact HB.out | apply below_alloc | apply pw_below_drewN | apply below_drew1) | exact HB.out))); (case aF => exact (fun _ _ => trivial)); (case aO => exact (by (with_reducible repeat (first | apply Kd.R_alloc | apply Kd.R_drewN | apply Kd.R_drew)); exact HO_7.out)); (case aS => exact (below_size (by repeat (first | (with_reducible first | exact HB.out | apply below_alloc | apply pw_below_drewN | apply below_drew1) | exact HB.out)))); (case aL => have := LMc15.out; omega); intro v290 w16 ho hb hg hat; rw [← Ny289.out] at ho; have n0_ := Aside0.mk (hb); have n1_ := Aside0.mk (ho); clear HB; clear HO_7; have HB := n0_; have HO291 := n1_; clear n0_ n1_; clear ho hb hg hat))
                    go_roundg k2
                    case measure => have := HJ4.out; have := HK2.out; omega
                    case rel => exact ⟨(y289), (wrap64 (x8_2 - 1)), (by first | rfl | (simp; done) | (simp [*]; done)), H', ⟨by have := HJ4.out; have := HK2.out; omega⟩, ⟨by (with_reducible repeat (first | apply Kd.R_alloc | apply Kd.R_drewN | apply Kd.R_drew)); exact HO291.out⟩, ⟨by repeat (first | (with_reducible first | exact HB.out | apply below_alloc | apply pw_below_drewN | apply below_drew1) | exact HB.out)⟩⟩
                  · rw [if_neg c15] at H
                    exact absurd H (by simp)
                · rw [if_neg c13] at H
                  exact absurd H (by simp)
              · rw [if_neg c11] at H
                have c11b0 : decide (0 ≤ x8_2) = false := decide_eq_false c11
                clear c11
                obtain rfl := Option.some.inj H
                go_wp2
                go_ret
                exact ⟨_, by first | rfl | (simp [errW_none, errW_some] <;> rfl) | (simp [*, errW_none, errW_some] <;> rfl), by (with_reducible repeat (first | apply Kd.R_alloc | apply Kd.R_drewN | apply Kd.R_drew)); exact HO_7.out, by repeat (first | (with_reducible first | exact HB.out | apply below_alloc | apply pw_below_drewN | apply below_drew1) | exact HB.out)⟩
  · rw [if_neg c4] at H
    exact absurd H (by simp)

end Go.Proofs.Ytpahlfjfadammaa.P
