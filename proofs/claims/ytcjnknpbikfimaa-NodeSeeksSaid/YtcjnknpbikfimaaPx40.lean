/- Functions and contracts, written by a program (mkprint.py, a wrapper of ours around the print); texts between GIVEN marks are ours. -/
import Derived.Test.YtcjnknpbikfimaaPx0
import Derived.Test.YtcjnknpbikfimaaPx1
import Derived.Test.YtcjnknpbikfimaaPx12
import Derived.Test.YtcjnknpbikfimaaPx13
import Derived.Test.YtcjnknpbikfimaaPx16
import Derived.Test.YtcjnknpbikfimaaPx35
import Derived.Test.YtcjnknpbikfimaaPx36
import Derived.Test.YtcjnknpbikfimaaPx37
import Derived.Test.YtcjnknpbikfimaaPx38
import Derived.Test.YtcjnknpbikfimaaPx39
namespace Go.Proofs.Ytcjnknpbikfimaa.P
open Go.RowKit Go.Proofs.YtcjnknpbikfimaaW.PrintWords Go.Proofs.YtcjnknpbikfimaaW.PrintLast Go.Proofs.YtcjnknpbikfimaaW.PrintMore
attribute [local go_sem] max2_int min2_int max_two min_two max_three min_three max_four min_four   -- for this text's walks alone
set_option linter.unusedVariables false
set_option linter.unusedSimpArgs false
theorem q11_ {P : Prop} (h : P := by repeat (first | (with_reducible first | exact HB.out | apply below_alloc | apply pw_below_drewN | apply below_drew1 | refine below_set ?_ GE651.out | refine below_set ?_ GE652.out) | exact HB.out)) : P := h
theorem q30_ {P : Prop} (h : P := by (with_reducible repeat (first | refine blk_drewN ?_ _ | refine blk_drew ?_ | refine blk_alloc ?_ _)); exact BK651.out) : P := h
theorem q49_ {P : Prop} (h : P := by (with_reducible repeat (first | refine blk_drewN ?_ _ | refine blk_drew ?_ | refine blk_alloc ?_ _)); exact BK652.out) : P := h
theorem q124_ {P : Prop} (h : P := by repeat (first | (with_reducible first | exact HB.out | apply below_alloc | apply pw_below_drewN | apply below_drew1 | refine below_set ?_ GE651.out) | exact HB.out)) : P := h
theorem q179_ {P : Prop} (h : P := by (with_reducible repeat (first | apply Kd.V_alloc | apply Kd.V_drewN | apply Kd.V_drew)); exact Kd.V_mono HO657.out (fun _ hk => ⟨hk.1.2, ⟨hk.2, ⟨hk.1.1.1, hk.1.1.2⟩⟩⟩)) : P := h
theorem q180_ {P : Prop} (h : P := by (with_reducible repeat (first | apply Kd.V_alloc | apply Kd.V_drewN | apply Kd.V_drew)); exact Kd.V_mono HO660.out (fun _ hk => ⟨hk.1.2, ⟨hk.2, ⟨hk.1.1.1, hk.1.1.2⟩⟩⟩)) : P := h
theorem q182_ {P : Prop} (h : P := by (with_reducible repeat (first | refine blk_drewN ?_ _ | refine blk_drew ?_ | refine blk_alloc ?_ _)); refine blk_far ?_ NB652_651.out _; (with_reducible repeat (first | refine blk_drewN ?_ _ | refine blk_drew ?_ | refine blk_alloc ?_ _)); refine blk_far ?_ NB652_651.out _; (with_reducible repeat (first | refine blk_drewN ?_ _ | refine blk_drew ?_ | refine blk_alloc ?_ _)); refine blk_far ?_ NB652_651.out _; (with_reducible repeat (first | refine blk_drewN ?_ _ | refine blk_drew ?_ | refine blk_alloc ?_ _)); exact BK652.out) : P := h
theorem q185_ {P : Prop} (h : P := by (with_reducible repeat (first | apply Kd.V_alloc | apply Kd.V_drewN | apply Kd.V_drew)); exact HO657.out) : P := h
theorem q186_ {P : Prop} (h : P := by (with_reducible repeat (first | apply Kd.V_alloc | apply Kd.V_drewN | apply Kd.V_drew)); exact HO660.out) : P := h
theorem q202_ {P : Prop} (h : P := by (with_reducible repeat (first | apply Kd.V_alloc | apply Kd.V_drewN | apply Kd.V_drew)); exact (Kd.V_mono (Kd.V_far (p := ⟨gb651, 2, none⟩) (Kd.V_far (p := ⟨gb651, 1, none⟩) (Kd.V_far (p := ⟨gb651, 0, none⟩) (Kd.V_mono HO657.out (fun k_ hk => (⟨hk, hk.1⟩ : _ ∧ k_ ≠ gb651))) (fun _ hk => hk.2) (.int .i64 t654)) (fun _ hk => hk.2) (.slice Ao19 t655.length co19)) (fun _ hk => hk.2) (.slice Ao20 t658.length co20)) (fun _ h_ => h_.1))) : P := h
theorem q203_ {P : Prop} (h : P := by (with_reducible repeat (first | apply Kd.V_alloc | apply Kd.V_drewN | apply Kd.V_drew)); exact (Kd.V_mono (Kd.V_far (p := ⟨gb651, 2, none⟩) (Kd.V_far (p := ⟨gb651, 1, none⟩) (Kd.V_far (p := ⟨gb651, 0, none⟩) (Kd.V_mono HO660.out (fun k_ hk => (⟨hk, hk.1⟩ : _ ∧ k_ ≠ gb651))) (fun _ hk => hk.2) (.int .i64 t654)) (fun _ hk => hk.2) (.slice Ao19 t655.length co19)) (fun _ hk => hk.2) (.slice Ao20 t658.length co20)) (fun _ h_ => h_.1))) : P := h
theorem q204_ {P : Prop} (h : P := by (with_reducible repeat (first | apply Kd.V_alloc | apply Kd.V_drewN | apply Kd.V_drew)); exact (Kd.V_mono (Kd.V_far (p := ⟨gb651, 2, none⟩) (Kd.V_far (p := ⟨gb651, 1, none⟩) (Kd.V_far (p := ⟨gb651, 0, none⟩) (Kd.V_mono HO657.out (fun k_ hk => (⟨hk, hk.1⟩ : _ ∧ k_ ≠ gb651))) (fun _ hk => hk.2) (.int .i64 t654)) (fun _ hk => hk.2) (.slice Ao63 t655.length co63)) (fun _ hk => hk.2) (.slice Ao64 t658.length co64)) (fun _ h_ => h_.1))) : P := h
theorem q205_ {P : Prop} (h : P := by (with_reducible repeat (first | apply Kd.V_alloc | apply Kd.V_drewN | apply Kd.V_drew)); exact (Kd.V_mono (Kd.V_far (p := ⟨gb651, 2, none⟩) (Kd.V_far (p := ⟨gb651, 1, none⟩) (Kd.V_far (p := ⟨gb651, 0, none⟩) (Kd.V_mono HO660.out (fun k_ hk => (⟨hk, hk.1⟩ : _ ∧ k_ ≠ gb651))) (fun _ hk => hk.2) (.int .i64 t654)) (fun _ hk => hk.2) (.slice Ao63 t655.length co63)) (fun _ hk => hk.2) (.slice Ao64 t658.length co64)) (fun _ h_ => h_.1))) : P := h
theorem q220_ {P : Prop} (h : P := by (with_reducible repeat (first | apply Kd.R_alloc | apply Kd.R_drewN | apply Kd.R_drew)); exact Kd.R_mono HO668.out (fun _ hk => hk.2)) : P := h
theorem q221_ {P : Prop} (h : P := by (with_reducible repeat (first | apply Kd.R_alloc | apply Kd.R_drewN | apply Kd.R_drew)); exact Kd.R_mono HO671.out (fun _ hk => hk.2)) : P := h

attribute [local go_sem high] eqA35
/-! ### cambiumlaw06_NodeSeeks: function 6 -/
mutual
def cambiumlaw06_NodeSeeks.j0 : Nat → Bool → List Int → List Int → Bool → Option (Bool)
 | 0, _, _, _, _ => none
 | k + 1, x5, x11, x12, x59 => if x59 = true then (some false) else (cambiumlaw06_NodeSeeks.l0 k x5 x11 x12 0)
def cambiumlaw06_NodeSeeks.l0 : Nat → Bool → List Int → List Int → Int → Option (Bool)
 | 0, _, _, _, _ => none
 | k + 1, x5, x11, x12, x13 => if x13 < (x11.length : Int) then (if 0 ≤ x13 then (if x13 < (x12.length : Int) then (if (rd x11 x13) = (rd x12 x13) then (cambiumlaw06_NodeSeeks.l0 k x5 x11 x12 (wrap64 (x13 + 1))) else (some false)) else (none)) else (none)) else (some x5)
end
def cambiumlaw06_NodeSeeks.f (k : Nat) (a0_0 : Int) (l0_1 : List (S52)) (l0_2 : List (S57)) (a1_0 : Int) (a1_1 : Int) (a1_2 : Int) : Option (Bool) := (cambiumlaw06_shown.f).bind fun t653 => ((cambiumlaw06_few.f a0_0 l0_1 l0_2).bind fun bt654 => ((cambiumref06_May.f k bt654.1 bt654.2.1 bt654.2.2).bind fun t661 => (if t661 = true then ((node_Seek.f bt654.1 bt654.2.1 bt654.2.2 a1_0 a1_1 a1_2).bind fun bt662 => ((cambiumref06_Seek.f k bt654.1 bt654.2.1 bt654.2.2 a1_0 a1_1 a1_2).bind fun bt664 => ((node_Kids.f k bt654.1 bt654.2.1 bt654.2.2).bind fun t666 => ((cambiumref06_Kids.f k bt654.1 bt654.2.1 bt654.2.2).bind fun t669 => (if bt662.1 = bt664.1 then (if (bt662.2 != bt664.2) = true then (cambiumlaw06_NodeSeeks.j0 k t653 t666 t669 true) else (if (t666.length : Int) = (t669.length : Int) then ((node_Least.f bt654.1 bt654.2.1 bt654.2.2).bind fun bt672 => ((cambiumref06_Least.f k bt654.1 bt654.2.1 bt654.2.2).bind fun bt675 => (cambiumlaw06_NodeSeeks.j0 k t653 t666 t669 (!(bt672.1 == bt675.1) || (!(bt672.2.1 == bt675.2.1) || (!(bt672.2.2 == bt675.2.2))))))) else (cambiumlaw06_NodeSeeks.j0 k t653 t666 t669 true))) else (cambiumlaw06_NodeSeeks.j0 k t653 t666 t669 true)))))) else (some t653))))
theorem cambiumlaw06_NodeSeeks.mono_l : ∀ k, (∀ y0 y1 y2 y3, LeO (cambiumlaw06_NodeSeeks.j0 k y0 y1 y2 y3) (cambiumlaw06_NodeSeeks.j0 (k + 1) y0 y1 y2 y3)) ∧ (∀ y0 y1 y2 y3, LeO (cambiumlaw06_NodeSeeks.l0 k y0 y1 y2 y3) (cambiumlaw06_NodeSeeks.l0 (k + 1) y0 y1 y2 y3))
 | 0 => ⟨fun _ _ _ _ r h => by simp [cambiumlaw06_NodeSeeks.j0] at h, fun _ _ _ _ r h => by simp [cambiumlaw06_NodeSeeks.l0] at h⟩
 | k + 1 => by
  obtain ⟨ih0, ih1⟩ := cambiumlaw06_NodeSeeks.mono_l k
  refine ⟨?_, ?_⟩
  ·intro y0 y1 y2 y3
   unfold cambiumlaw06_NodeSeeks.j0
   repeat' first
   | (with_reducible exact ih0 _ _ _ _)
   | (with_reducible exact ih1 _ _ _ _)
   | (with_reducible exact cambiumref06_Kids.mono _ _ _ _)
   | (with_reducible exact cambiumref06_Least.mono _ _ _ _)
   | (with_reducible exact cambiumref06_May.mono _ _ _ _)
   | (with_reducible exact cambiumref06_Seek.mono _ _ _ _ _ _ _)
   | (with_reducible exact node_Kids.mono _ _ _ _)
   | (with_reducible exact LeO.refl _)
   | (with_reducible exact LeO.none _)
   | (with_reducible refine LeO.ite ?_ ?_)
   | (with_reducible refine LeO.bind ?_ (fun _ => ?_))
   | exact ih0 _ _ _ _
   | exact ih1 _ _ _ _
   | exact cambiumref06_Kids.mono _ _ _ _
   | exact cambiumref06_Least.mono _ _ _ _
   | exact cambiumref06_May.mono _ _ _ _
   | exact cambiumref06_Seek.mono _ _ _ _ _ _ _
   | exact node_Kids.mono _ _ _ _
   | exact LeO.none _
   | refine LeO.ite ?_ ?_
   | refine LeO.bind ?_ (fun _ => ?_)
  ·intro y0 y1 y2 y3
   unfold cambiumlaw06_NodeSeeks.l0
   repeat' first
   | (with_reducible exact ih0 _ _ _ _)
   | (with_reducible exact ih1 _ _ _ _)
   | (with_reducible exact cambiumref06_Kids.mono _ _ _ _)
   | (with_reducible exact cambiumref06_Least.mono _ _ _ _)
   | (with_reducible exact cambiumref06_May.mono _ _ _ _)
   | (with_reducible exact cambiumref06_Seek.mono _ _ _ _ _ _ _)
   | (with_reducible exact node_Kids.mono _ _ _ _)
   | (with_reducible exact LeO.refl _)
   | (with_reducible exact LeO.none _)
   | (with_reducible refine LeO.ite ?_ ?_)
   | (with_reducible refine LeO.bind ?_ (fun _ => ?_))
   | exact ih0 _ _ _ _
   | exact ih1 _ _ _ _
   | exact cambiumref06_Kids.mono _ _ _ _
   | exact cambiumref06_Least.mono _ _ _ _
   | exact cambiumref06_May.mono _ _ _ _
   | exact cambiumref06_Seek.mono _ _ _ _ _ _ _
   | exact node_Kids.mono _ _ _ _
   | exact LeO.none _
   | refine LeO.ite ?_ ?_
   | refine LeO.bind ?_ (fun _ => ?_)
theorem cambiumlaw06_NodeSeeks.mono : ∀ a0 a1 a2 a3 a4 a5 k, LeO (cambiumlaw06_NodeSeeks.f k a0 a1 a2 a3 a4 a5) (cambiumlaw06_NodeSeeks.f (k + 1) a0 a1 a2 a3 a4 a5) := by
 intro a0 a1 a2 a3 a4 a5 k
 obtain ⟨ih0, ih1⟩ := cambiumlaw06_NodeSeeks.mono_l k
 unfold cambiumlaw06_NodeSeeks.f
 repeat' first
   | (with_reducible exact ih0 _ _ _ _)
   | (with_reducible exact ih1 _ _ _ _)
   | (with_reducible exact cambiumref06_Kids.mono _ _ _ _)
   | (with_reducible exact cambiumref06_Least.mono _ _ _ _)
   | (with_reducible exact cambiumref06_May.mono _ _ _ _)
   | (with_reducible exact cambiumref06_Seek.mono _ _ _ _ _ _ _)
   | (with_reducible exact node_Kids.mono _ _ _ _)
   | (with_reducible exact LeO.refl _)
   | (with_reducible exact LeO.none _)
   | (with_reducible refine LeO.ite ?_ ?_)
   | (with_reducible refine LeO.bind ?_ (fun _ => ?_))
   | exact ih0 _ _ _ _
   | exact ih1 _ _ _ _
   | exact cambiumref06_Kids.mono _ _ _ _
   | exact cambiumref06_Least.mono _ _ _ _
   | exact cambiumref06_May.mono _ _ _ _
   | exact cambiumref06_Seek.mono _ _ _ _ _ _ _
   | exact node_Kids.mono _ _ _ _
   | exact LeO.none _
   | refine LeO.ite ?_ ?_
   | refine LeO.bind ?_ (fun _ => ?_)
def cambiumlaw06_NodeSeeks.T10 : Bool × List (List Nat × List Nat) := (true, [([], []), ([], []), ([0, 1], [0, 1]), ([2], [2]), ([3], [3]), ([3], [3]), ([4, 5, 3], [3, 4, 5]), ([3, 6], [3, 6]), ([7, 3], [7]), ([8], [8]), ([9, 8], [8, 9]), ([8], [8]), ([11, 8], [8, 11]), ([10, 12, 8], [8, 10, 12]), ([8, 13], [8, 13]), ([14, 8], [14]), ([15], [15]), ([16, 15, 15], [15, 16]), ([15], [15]), ([18, 17, 15], [15, 18]), ([17, 19, 15], [15, 17, 19]), ([15, 20], [15, 20])])
def cambiumlaw06_NodeSeeks.B10 : List Nat := [0, 0, 3, 7, 15, 15, 63, 127, 255, 511, 1023, 511, 2559, 8191, 16383, 32767, 65535, 131071, 65535, 524287, 1048575, 2097151]
theorem cambiumlaw06_NodeSeeks.tab10 : rtab .any (opsOf Try.f6 10) = cambiumlaw06_NodeSeeks.T10 := by kernel_rfl
theorem cambiumlaw06_NodeSeeks.bits10 : waitsOk cambiumlaw06_NodeSeeks.T10.2 cambiumlaw06_NodeSeeks.B10 = true := by kernel_rfl
def cambiumlaw06_NodeSeeks.T15 : Bool × List (List Nat × List Nat) := (true, [([], []), ([], []), ([0, 1], [0, 1]), ([2], [2]), ([], []), ([], []), ([4, 5], [4, 5]), ([6], [6]), ([3, 7], [3, 7])])
def cambiumlaw06_NodeSeeks.B15 : List Nat := [0, 0, 3, 7, 0, 0, 48, 112, 255]
theorem cambiumlaw06_NodeSeeks.tab15 : rtab .any (opsOf Try.f6 15) = cambiumlaw06_NodeSeeks.T15 := by kernel_rfl
theorem cambiumlaw06_NodeSeeks.bits15 : waitsOk cambiumlaw06_NodeSeeks.T15.2 cambiumlaw06_NodeSeeks.B15 = true := by kernel_rfl
set_option maxHeartbeats 8000000 in
set_option maxRecDepth 100000 in
theorem cambiumlaw06_NodeSeeks.calls (k : Nat) (a0_0 : Int) (A0_1 : Option Addr) (c0_1 : Nat) (l0_1 : List (S52)) (A0_2 : Option Addr) (c0_2 : Nat) (l0_2 : List (S57)) (a1_0 : Int) (a1_1 : Int) (a1_2 : Int) (r : Bool) (w : World) (hr0_1 : Kd.C k52 w A0_1 l0_1.length l0_1) (hc0_1 : l0_1.length ≤ c0_1) (hr0_2 : Kd.C k57 w A0_2 l0_2.length l0_2) (hc0_2 : l0_2.length ≤ c0_2) (hr_ : Aside0 (r = true)) (h : cambiumlaw06_NodeSeeks.f k a0_0 l0_1 l0_2 a1_0 a1_1 a1_2 = some r) :
  Calls Try.prog 6 #[.agg #[.int .i64 a0_0, .slice A0_1 l0_1.length c0_1, .slice A0_2 l0_2.length c0_2], .agg #[.int .i64 a1_0, .int .i64 a1_1, .int .i64 a1_2]] w fun e w' => e = .returned (.bool r) ∧ Below w.heap.size w w' := by
 have hu25 := Try.underlying25
 have hu35 := Try.underlying35
 have HR0_1 := Aside0.mk hr0_1
 have HC0_1 := Aside0.mk hc0_1
 clear hr0_1 hc0_1
 have HR0_2 := Aside0.mk hr0_2
 have HC0_2 := Aside0.mk hc0_2
 clear hr0_2 hc0_2
 have HB := Aside0.mk (Below.refl w.heap.size w)
 have H : ((cambiumlaw06_shown.f).bind fun t653 => ((cambiumlaw06_few.f a0_0 l0_1 l0_2).bind fun bt654 => ((cambiumref06_May.f k bt654.1 bt654.2.1 bt654.2.2).bind fun t661 => (if t661 = true then ((node_Seek.f bt654.1 bt654.2.1 bt654.2.2 a1_0 a1_1 a1_2).bind fun bt662 => ((cambiumref06_Seek.f k bt654.1 bt654.2.1 bt654.2.2 a1_0 a1_1 a1_2).bind fun bt664 => ((node_Kids.f k bt654.1 bt654.2.1 bt654.2.2).bind fun t666 => ((cambiumref06_Kids.f k bt654.1 bt654.2.1 bt654.2.2).bind fun t669 => (if bt662.1 = bt664.1 then (if (bt662.2 != bt664.2) = true then (cambiumlaw06_NodeSeeks.j0 k t653 t666 t669 true) else (if (t666.length : Int) = (t669.length : Int) then ((node_Least.f bt654.1 bt654.2.1 bt654.2.2).bind fun bt672 => ((cambiumref06_Least.f k bt654.1 bt654.2.1 bt654.2.2).bind fun bt675 => (cambiumlaw06_NodeSeeks.j0 k t653 t666 t669 (!(bt672.1 == bt675.1) || (!(bt672.2.1 == bt675.2.1) || (!(bt672.2.2 == bt675.2.2))))))) else (cambiumlaw06_NodeSeeks.j0 k t653 t666 t669 true))) else (cambiumlaw06_NodeSeeks.j0 k t653 t666 t669 true)))))) else (some t653))))) = some r := h
 clear h
 replace H := Option.bind_eq_some_iff.mp H
 obtain ⟨t653, A30, H⟩ := H
 replace H : ((cambiumlaw06_few.f a0_0 l0_1 l0_2).bind fun bt654 => ((cambiumref06_May.f k bt654.1 bt654.2.1 bt654.2.2).bind fun t661 => (if t661 = true then ((node_Seek.f bt654.1 bt654.2.1 bt654.2.2 a1_0 a1_1 a1_2).bind fun bt662 => ((cambiumref06_Seek.f k bt654.1 bt654.2.1 bt654.2.2 a1_0 a1_1 a1_2).bind fun bt664 => ((node_Kids.f k bt654.1 bt654.2.1 bt654.2.2).bind fun t666 => ((cambiumref06_Kids.f k bt654.1 bt654.2.1 bt654.2.2).bind fun t669 => (if bt662.1 = bt664.1 then (if (bt662.2 != bt664.2) = true then (cambiumlaw06_NodeSeeks.j0 k t653 t666 t669 true) else (if (t666.length : Int) = (t669.length : Int) then ((node_Least.f bt654.1 bt654.2.1 bt654.2.2).bind fun bt672 => ((cambiumref06_Least.f k bt654.1 bt654.2.1 bt654.2.2).bind fun bt675 => (cambiumlaw06_NodeSeeks.j0 k t653 t666 t669 (!(bt672.1 == bt675.1) || (!(bt672.2.1 == bt675.2.1) || (!(bt672.2.2 == bt675.2.2))))))) else (cambiumlaw06_NodeSeeks.j0 k t653 t666 t669 true))) else (cambiumlaw06_NodeSeeks.j0 k t653 t666 t669 true)))))) else (some t653)))) = some r := H
 have A3 := Aside0.mk A30
 clear A30
 replace H := Option.bind_eq_some_iff.mp H
 obtain ⟨⟨t654, t655, t658⟩, A40, H⟩ := H
 replace H : ((cambiumref06_May.f k t654 t655 t658).bind fun t661 => (if t661 = true then ((node_Seek.f t654 t655 t658 a1_0 a1_1 a1_2).bind fun bt662 => ((cambiumref06_Seek.f k t654 t655 t658 a1_0 a1_1 a1_2).bind fun bt664 => ((node_Kids.f k t654 t655 t658).bind fun t666 => ((cambiumref06_Kids.f k t654 t655 t658).bind fun t669 => (if bt662.1 = bt664.1 then (if (bt662.2 != bt664.2) = true then (cambiumlaw06_NodeSeeks.j0 k t653 t666 t669 true) else (if (t666.length : Int) = (t669.length : Int) then ((node_Least.f t654 t655 t658).bind fun bt672 => ((cambiumref06_Least.f k t654 t655 t658).bind fun bt675 => (cambiumlaw06_NodeSeeks.j0 k t653 t666 t669 (!(bt672.1 == bt675.1) || (!(bt672.2.1 == bt675.2.1) || (!(bt672.2.2 == bt675.2.2))))))) else (cambiumlaw06_NodeSeeks.j0 k t653 t666 t669 true))) else (cambiumlaw06_NodeSeeks.j0 k t653 t666 t669 true)))))) else (some t653))) = some r := H
 have A4 := Aside0.mk A40
 clear A40
 replace H := Option.bind_eq_some_iff.mp H
 obtain ⟨t661, A50, H⟩ := H
 replace H : (if t661 = true then ((node_Seek.f t654 t655 t658 a1_0 a1_1 a1_2).bind fun bt662 => ((cambiumref06_Seek.f k t654 t655 t658 a1_0 a1_1 a1_2).bind fun bt664 => ((node_Kids.f k t654 t655 t658).bind fun t666 => ((cambiumref06_Kids.f k t654 t655 t658).bind fun t669 => (if bt662.1 = bt664.1 then (if (bt662.2 != bt664.2) = true then (cambiumlaw06_NodeSeeks.j0 k t653 t666 t669 true) else (if (t666.length : Int) = (t669.length : Int) then ((node_Least.f t654 t655 t658).bind fun bt672 => ((cambiumref06_Least.f k t654 t655 t658).bind fun bt675 => (cambiumlaw06_NodeSeeks.j0 k t653 t666 t669 (!(bt672.1 == bt675.1) || (!(bt672.2.1 == bt675.2.1) || (!(bt672.2.2 == bt675.2.2))))))) else (cambiumlaw06_NodeSeeks.j0 k t653 t666 t669 true))) else (cambiumlaw06_NodeSeeks.j0 k t653 t666 t669 true)))))) else (some t653)) = some r := H
 have A5 := Aside0.mk A50
 clear A50
 by_cases c6 : t661 = true
 ·subst c6
  have H1 : ((node_Seek.f t654 t655 t658 a1_0 a1_1 a1_2).bind fun bt662 => ((cambiumref06_Seek.f k t654 t655 t658 a1_0 a1_1 a1_2).bind fun bt664 => ((node_Kids.f k t654 t655 t658).bind fun t666 => ((cambiumref06_Kids.f k t654 t655 t658).bind fun t669 => (if bt662.1 = bt664.1 then (if (bt662.2 != bt664.2) = true then (cambiumlaw06_NodeSeeks.j0 k t653 t666 t669 true) else (if (t666.length : Int) = (t669.length : Int) then ((node_Least.f t654 t655 t658).bind fun bt672 => ((cambiumref06_Least.f k t654 t655 t658).bind fun bt675 => (cambiumlaw06_NodeSeeks.j0 k t653 t666 t669 (!(bt672.1 == bt675.1) || (!(bt672.2.1 == bt675.2.1) || (!(bt672.2.2 == bt675.2.2))))))) else (cambiumlaw06_NodeSeeks.j0 k t653 t666 t669 true))) else (cambiumlaw06_NodeSeeks.j0 k t653 t666 t669 true)))))) = some r := by rw [if_pos rfl] at H; exact H
  clear H
  have H := H1
  clear H1
  replace H := Option.bind_eq_some_iff.mp H
  obtain ⟨⟨t662, t663⟩, A70, H⟩ := H
  replace H : ((cambiumref06_Seek.f k t654 t655 t658 a1_0 a1_1 a1_2).bind fun bt664 => ((node_Kids.f k t654 t655 t658).bind fun t666 => ((cambiumref06_Kids.f k t654 t655 t658).bind fun t669 => (if t662 = bt664.1 then (if (t663 != bt664.2) = true then (cambiumlaw06_NodeSeeks.j0 k t653 t666 t669 true) else (if (t666.length : Int) = (t669.length : Int) then ((node_Least.f t654 t655 t658).bind fun bt672 => ((cambiumref06_Least.f k t654 t655 t658).bind fun bt675 => (cambiumlaw06_NodeSeeks.j0 k t653 t666 t669 (!(bt672.1 == bt675.1) || (!(bt672.2.1 == bt675.2.1) || (!(bt672.2.2 == bt675.2.2))))))) else (cambiumlaw06_NodeSeeks.j0 k t653 t666 t669 true))) else (cambiumlaw06_NodeSeeks.j0 k t653 t666 t669 true))))) = some r := H
  have A7 := Aside0.mk A70
  clear A70
  replace H := Option.bind_eq_some_iff.mp H
  obtain ⟨⟨t664, t665⟩, A80, H⟩ := H
  replace H : ((node_Kids.f k t654 t655 t658).bind fun t666 => ((cambiumref06_Kids.f k t654 t655 t658).bind fun t669 => (if t662 = t664 then (if (t663 != t665) = true then (cambiumlaw06_NodeSeeks.j0 k t653 t666 t669 true) else (if (t666.length : Int) = (t669.length : Int) then ((node_Least.f t654 t655 t658).bind fun bt672 => ((cambiumref06_Least.f k t654 t655 t658).bind fun bt675 => (cambiumlaw06_NodeSeeks.j0 k t653 t666 t669 (!(bt672.1 == bt675.1) || (!(bt672.2.1 == bt675.2.1) || (!(bt672.2.2 == bt675.2.2))))))) else (cambiumlaw06_NodeSeeks.j0 k t653 t666 t669 true))) else (cambiumlaw06_NodeSeeks.j0 k t653 t666 t669 true)))) = some r := H
  have A8 := Aside0.mk A80
  clear A80
  replace H := Option.bind_eq_some_iff.mp H
  obtain ⟨t666, A90, H⟩ := H
  replace H : ((cambiumref06_Kids.f k t654 t655 t658).bind fun t669 => (if t662 = t664 then (if (t663 != t665) = true then (cambiumlaw06_NodeSeeks.j0 k t653 t666 t669 true) else (if (t666.length : Int) = (t669.length : Int) then ((node_Least.f t654 t655 t658).bind fun bt672 => ((cambiumref06_Least.f k t654 t655 t658).bind fun bt675 => (cambiumlaw06_NodeSeeks.j0 k t653 t666 t669 (!(bt672.1 == bt675.1) || (!(bt672.2.1 == bt675.2.1) || (!(bt672.2.2 == bt675.2.2))))))) else (cambiumlaw06_NodeSeeks.j0 k t653 t666 t669 true))) else (cambiumlaw06_NodeSeeks.j0 k t653 t666 t669 true))) = some r := H
  have A9 := Aside0.mk A90
  clear A90
  replace H := Option.bind_eq_some_iff.mp H
  obtain ⟨t669, A100, H⟩ := H
  replace H : (if t662 = t664 then (if (t663 != t665) = true then (cambiumlaw06_NodeSeeks.j0 k t653 t666 t669 true) else (if (t666.length : Int) = (t669.length : Int) then ((node_Least.f t654 t655 t658).bind fun bt672 => ((cambiumref06_Least.f k t654 t655 t658).bind fun bt675 => (cambiumlaw06_NodeSeeks.j0 k t653 t666 t669 (!(bt672.1 == bt675.1) || (!(bt672.2.1 == bt675.2.1) || (!(bt672.2.2 == bt675.2.2))))))) else (cambiumlaw06_NodeSeeks.j0 k t653 t666 t669 true))) else (cambiumlaw06_NodeSeeks.j0 k t653 t666 t669 true)) = some r := H
  have A10 := Aside0.mk A100
  clear A100
  have HC11 := Aside0.mk H
  clear H
  go_enter Try.func6, Try.ntmps6
  go_upto_region 10 with (first | ((with_reducible refine gate_dst (N := 2) rfl ?_); (try (refine gate_guard (by rfl) ?_; dsimp only)); refine box_event ?hg (N := 2) ?hd (cs := #[.int .i64 a0_0, .slice A0_1 l0_1.length c0_1, .slice A0_2 l0_2.length c0_2]) (t := 25) ?hr ?_; (case hd => rfl); (case hg => rfl); (case hr => first | (go_simp; done) | (go_simp; rfl)); intro gb651 hg w12 hbox hb; have n0_ := Aside0.mk (below_step q0_ hb); have n1_ := Aside0.mk (hbox); have n2_ := Aside0.mk ((by rw [hg]; exact (below_size q0_) : w.heap.size ≤ gb651)); have n3_ := Aside0.mk ((by rw [hg]; exact (below_size q0_) : w.heap.size ≤ gb651)); clear HB; have HB := n0_; have BK651 := n1_; have GW651 := n2_; have GE651 := n3_; clear n0_ n1_ n2_ n3_; clear hb hbox hg) | ((with_reducible refine gate_dst (N := 3) rfl ?_); (try (refine gate_guard (by rfl) ?_; dsimp only)); refine box_event ?hg (N := 3) ?hd (cs := #[.int .i64 a1_0, .int .i64 a1_1, .int .i64 a1_2]) (t := 35) ?hr ?_; (case hd => rfl); (case hg => rfl); (case hr => first | (go_simp; done) | (go_simp; rfl)); intro gb652 hg w13 hbox hb; have n0_ := Aside0.mk (blk_below (g := gb651) (o := .cells #[.int .i64 a0_0, .slice A0_1 l0_1.length c0_1, .slice A0_2 l0_2.length c0_2] 25 (0, 0)) q30_ hb); have n1_ := Aside0.mk (below_step q124_ hb); have n2_ := Aside0.mk (hbox); have n3_ := Aside0.mk ((by rw [hg]; exact (below_size q124_) : w.heap.size ≤ gb652)); have n4_ := Aside0.mk ((by rw [hg]; exact (below_size q124_) : w.heap.size ≤ gb652)); have n5_ := Aside0.mk ((by rw [hg]; exact Nat.ne_of_lt (blk_lt (g := gb651) (o := .cells #[.int .i64 a0_0, .slice A0_1 l0_1.length c0_1, .slice A0_2 l0_2.length c0_2] 25 (0, 0)) q30_) : gb651 ≠ gb652)); have n6_ := Aside0.mk ((by rw [hg]; exact Nat.ne_of_gt (blk_lt (g := gb651) (o := .cells #[.int .i64 a0_0, .slice A0_1 l0_1.length c0_1, .slice A0_2 l0_2.length c0_2] 25 (0, 0)) q30_) : gb652 ≠ gb651)); clear BK651; clear HB; have BK651 := n0_; have HB := n1_; have BK652 := n2_; have GW652 := n3_; have GE652 := n4_; have NB651_652 := n5_; have NB652_651 := n6_; clear n0_ n1_ n2_ n3_ n4_ n5_ n6_; clear hb hbox hg) | ((with_reducible refine gate_callee (f := 9) rfl ?_); refine goesL_ (some 14) rfl rfl Try.func9 q8_ rfl #[] rfl q1_ ?_; (with_reducible refine (cambiumlaw06_shown.calls  t653 _ A3.out).mono ?_); rintro e w14 ⟨rfl, hb⟩; refine ⟨_, rfl, ?_⟩; have n0_ := Aside0.mk (blk_below (g := gb651) (o := .cells #[.int .i64 a0_0, .slice A0_1 l0_1.length c0_1, .slice A0_2 l0_2.length c0_2] 25 (0, 0)) q30_ hb); have n1_ := Aside0.mk (blk_below (g := gb652) (o := .cells #[.int .i64 a1_0, .int .i64 a1_1, .int .i64 a1_2] 35 (0, 0)) q49_ hb); have n2_ := Aside0.mk (below_step q11_ hb); clear BK651; clear BK652; clear HB; have BK651 := n0_; have BK652 := n1_; have HB := n2_; clear n0_ n1_ n2_; (try clear hb); (try clear hb2); (try clear hk); (try clear hi); have hnb15 := NB651_652.out; have hnc15 := NB652_651.out; have hcz16_0 : w14.cell? ⟨gb651, 0, none⟩ = some (.int .i64 a0_0) := (blk_cell BK651.out 0).trans rfl; have hcz16_1 : w14.cell? ⟨gb651, 1, none⟩ = some (.slice A0_1 l0_1.length c0_1) := (blk_cell BK651.out 1).trans rfl; have hcz16_2 : w14.cell? ⟨gb651, 2, none⟩ = some (.slice A0_2 l0_2.length c0_2) := (blk_cell BK651.out 2).trans rfl; have hfz16_0 := blk_frozen BK651.out 0; have hfz16_1 := blk_frozen BK651.out 1; have hfz16_2 := blk_frozen BK651.out 2) | ((with_reducible refine gate_callee (f := 10) rfl ?_); refine goesL_ (some 16) rfl rfl Try.func10 q8_ rfl #[.agg #[.int .i64 a0_0, .slice A0_1 l0_1.length c0_1, .slice A0_2 l0_2.length c0_2]] rfl q1_ ?_; (with_reducible refine (cambiumlaw06_few.calls a0_0 (fun k_ => k_ < w.heap.size) _ _ l0_1 (fun k_ => k_ < w.heap.size) _ _ l0_2 t654 t655 t658 _ ?side1 ?side2 A4.out).mono ?_); (case side1 => exact Kd.V_mk HC0_1.out (Kd.F_below (Kd.C_F k52_heap HR0_1.out) q11_)); (case side2 => exact Kd.V_mk HC0_2.out (Kd.F_below (Kd.C_F k57_heap HR0_2.out) q11_)); rintro e w17 ⟨v656, v659, rfl, ho0, ho1, hb⟩; refine ⟨_, rfl, ?_⟩; have n0_ := Aside0.mk (Kd.V_lower (Kd.V_mono (ok' := fun k_ => k_ ≠ gb651 ∧ k_ ≠ gb652) ho0 (fun k_ hk_ => ⟨Or.elim hk_ (fun hs_ => Or.elim hs_ (fun hs_ => fun e_ => Nat.not_le.2 hs_ (by rw [e_]; exact GW651.out)) (fun hs_ => fun e_ => Nat.not_le.2 hs_ (by rw [e_]; exact GW651.out))) (fun hn_ => (Kd.freshB (g := gb651) (o := .cells #[.int .i64 a0_0, .slice A0_1 l0_1.length c0_1, .slice A0_2 l0_2.length c0_2] 25 (0, 0)) q30_ k_ hn_)), Or.elim hk_ (fun hs_ => Or.elim hs_ (fun hs_ => fun e_ => Nat.not_le.2 hs_ (by rw [e_]; exact GW652.out)) (fun hs_ => fun e_ => Nat.not_le.2 hs_ (by rw [e_]; exact GW652.out))) (fun hn_ => (Kd.freshB (g := gb652) (o := .cells #[.int .i64 a1_0, .int .i64 a1_1, .int .i64 a1_2] 35 (0, 0)) q49_ k_ hn_))⟩)) (below_size q11_)); have n1_ := Aside0.mk (Kd.V_lower (Kd.V_mono (ok' := fun k_ => k_ ≠ gb651 ∧ k_ ≠ gb652) ho1 (fun k_ hk_ => ⟨Or.elim hk_ (fun hs_ => Or.elim hs_ (fun hs_ => fun e_ => Nat.not_le.2 hs_ (by rw [e_]; exact GW651.out)) (fun hs_ => fun e_ => Nat.not_le.2 hs_ (by rw [e_]; exact GW651.out))) (fun hn_ => (Kd.freshB (g := gb651) (o := .cells #[.int .i64 a0_0, .slice A0_1 l0_1.length c0_1, .slice A0_2 l0_2.length c0_2] 25 (0, 0)) q30_ k_ hn_)), Or.elim hk_ (fun hs_ => Or.elim hs_ (fun hs_ => fun e_ => Nat.not_le.2 hs_ (by rw [e_]; exact GW652.out)) (fun hs_ => fun e_ => Nat.not_le.2 hs_ (by rw [e_]; exact GW652.out))) (fun hn_ => (Kd.freshB (g := gb652) (o := .cells #[.int .i64 a1_0, .int .i64 a1_1, .int .i64 a1_2] 35 (0, 0)) q49_ k_ hn_))⟩)) (below_size q11_)); have n2_ := Aside0.mk (blk_below (g := gb651) (o := .cells #[.int .i64 a0_0, .slice A0_1 l0_1.length c0_1, .slice A0_2 l0_2.length c0_2] 25 (0, 0)) q30_ hb); have n3_ := Aside0.mk (blk_below (g := gb652) (o := .cells #[.int .i64 a1_0, .int .i64 a1_1, .int .i64 a1_2] 35 (0, 0)) q49_ hb); have n4_ := Aside0.mk (below_step q11_ hb); clear BK651; clear BK652; clear HB; have HO657 := n0_; have HO660 := n1_; have BK651 := n2_; have BK652 := n3_; have HB := n4_; clear n0_ n1_ n2_ n3_ n4_; (try clear hb); (try clear hb2); (try clear hk); (try clear hi); (try clear ho0); (try clear ho1); have hcz18_0 : w17.cell? ⟨gb651, 0, none⟩ = some (.int .i64 a0_0) := (blk_cell BK651.out 0).trans rfl; have hcz18_1 : w17.cell? ⟨gb651, 1, none⟩ = some (.slice A0_1 l0_1.length c0_1) := (blk_cell BK651.out 1).trans rfl; have hcz18_2 : w17.cell? ⟨gb651, 2, none⟩ = some (.slice A0_2 l0_2.length c0_2) := (blk_cell BK651.out 2).trans rfl; have hfz18_0 := blk_frozen BK651.out 0; have hfz18_1 := blk_frozen BK651.out 1; have hfz18_2 := blk_frozen BK651.out 2; obtain ⟨Ao19, co19, eo19⟩ := Kd.V_slice HO657.out; subst eo19; obtain ⟨Ao20, co20, eo20⟩ := Kd.V_slice HO660.out; subst eo20) | ((with_reducible refine gate_callee (f := 12) rfl ?_); refine goesL_ (some 18) rfl rfl Try.func12 q8_ rfl #[.agg #[.int .i64 t654, .slice Ao19 t655.length co19, .slice Ao20 t658.length co20]] rfl q1_ ?_; (with_reducible refine (cambiumref06_May.calls k t654 _ _ t655 _ _ t658 true _ ?side1 ?side2 ?side3 ?side4 A5.out).mono ?_); (case side1 => refine (Kd.V_reads' (e := 52) (base := w.heap.size) (ok := fun k_ => (k_ ≠ gb651 ∧ k_ ≠ gb652)) (n := t655.length) (c := co19) ?_).2.2; exact q202_); (case side2 => exact (Kd.V_reads' HO657.out).2.1); (case side3 => refine (Kd.V_reads' (e := 57) (base := w.heap.size) (ok := fun k_ => (k_ ≠ gb651 ∧ k_ ≠ gb652)) (n := t658.length) (c := co20) ?_).2.2; exact q203_); (case side4 => exact (Kd.V_reads' HO660.out).2.1); rintro e w21 ⟨rfl, hb⟩; refine ⟨_, rfl, ?_⟩; have n0_ := Aside0.mk (Kd.V_below q202_ hb); have n1_ := Aside0.mk (Kd.V_below q203_ hb); have n2_ := Aside0.mk (blk_below (g := gb651) (o := .cells #[.int .i64 t654, .slice Ao19 t655.length co19, .slice Ao20 t658.length co20] 25 (0, 0)) (by (with_reducible repeat (first | refine blk_drewN ?_ _ | refine blk_drew ?_ | refine blk_alloc ?_ _)); refine blk_put (cs := #[.int .i64 t654, .slice Ao19 t655.length co19, .slice A0_2 l0_2.length c0_2]) ?_ 2 _ rfl; (with_reducible repeat (first | refine blk_drewN ?_ _ | refine blk_drew ?_ | refine blk_alloc ?_ _)); refine blk_put (cs := #[.int .i64 t654, .slice A0_1 l0_1.length c0_1, .slice A0_2 l0_2.length c0_2]) ?_ 1 _ rfl; (with_reducible repeat (first | refine blk_drewN ?_ _ | refine blk_drew ?_ | refine blk_alloc ?_ _)); refine blk_put (cs := #[.int .i64 a0_0, .slice A0_1 l0_1.length c0_1, .slice A0_2 l0_2.length c0_2]) ?_ 0 _ rfl; (with_reducible repeat (first | refine blk_drewN ?_ _ | refine blk_drew ?_ | refine blk_alloc ?_ _)); exact BK651.out) hb); have n3_ := Aside0.mk (blk_below (g := gb652) (o := .cells #[.int .i64 a1_0, .int .i64 a1_1, .int .i64 a1_2] 35 (0, 0)) q182_ hb); have n4_ := Aside0.mk (below_step q11_ hb); clear HO657; clear HO660; clear BK651; clear BK652; clear HB; have HO657 := n0_; have HO660 := n1_; have BK651 := n2_; have BK652 := n3_; have HB := n4_; clear n0_ n1_ n2_ n3_ n4_; (try clear hb); (try clear hb2); (try clear hk); (try clear hi); have hcz22_0 : w21.cell? ⟨gb651, 0, none⟩ = some (.int .i64 t654) := (blk_cell BK651.out 0).trans rfl; have hcz22_1 : w21.cell? ⟨gb651, 1, none⟩ = some (.slice Ao19 t655.length co19) := (blk_cell BK651.out 1).trans rfl; have hcz22_2 : w21.cell? ⟨gb651, 2, none⟩ = some (.slice Ao20 t658.length co20) := (blk_cell BK651.out 2).trans rfl; have hfz22_0 := blk_frozen BK651.out 0; have hfz22_1 := blk_frozen BK651.out 1; have hfz22_2 := blk_frozen BK651.out 2; have hcz23_0 : w21.cell? ⟨gb652, 0, none⟩ = some (.int .i64 a1_0) := (blk_cell BK652.out 0).trans rfl; have hcz23_1 : w21.cell? ⟨gb652, 1, none⟩ = some (.int .i64 a1_1) := (blk_cell BK652.out 1).trans rfl; have hcz23_2 : w21.cell? ⟨gb652, 2, none⟩ = some (.int .i64 a1_2) := (blk_cell BK652.out 2).trans rfl; have hfz23_0 := blk_frozen BK652.out 0; have hfz23_1 := blk_frozen BK652.out 1; have hfz23_2 := blk_frozen BK652.out 2) | ((with_reducible refine gate_callee (f := 15) rfl ?_); refine goesL_ (some 25) rfl rfl Try.func15 q8_ rfl #[.agg #[.int .i64 t654, .slice Ao19 t655.length co19, .slice Ao20 t658.length co20], .agg #[.int .i64 a1_0, .int .i64 a1_1, .int .i64 a1_2]] rfl q1_ ?_; (with_reducible refine (node_Seek.calls t654 _ _ t655 _ _ t658 a1_0 a1_1 a1_2 t662 t663 _ ?side1 ?side2 ?side3 ?side4 A7.out).mono ?_); (case side1 => repeat (first | exact (Kd.V_reads' HO657.out).2.2 | (with_reducible refine Kd.C_alloc ?_ _) | (with_reducible refine Kd.C_drewN ?_ _) | (with_reducible refine Kd.C_drew ?_))); (case side2 => exact (Kd.V_reads' HO657.out).2.1); (case side3 => repeat (first | exact (Kd.V_reads' HO660.out).2.2 | (with_reducible refine Kd.C_alloc ?_ _) | (with_reducible refine Kd.C_drewN ?_ _) | (with_reducible refine Kd.C_drew ?_))); (case side4 => exact (Kd.V_reads' HO660.out).2.1); rintro e w24 ⟨rfl, hb⟩; refine ⟨_, rfl, ?_⟩; have n0_ := Aside0.mk (Kd.V_below q185_ hb); have n1_ := Aside0.mk (Kd.V_below q186_ hb); have n2_ := Aside0.mk (blk_below (g := gb651) (o := .cells #[.int .i64 t654, .slice Ao19 t655.length co19, .slice Ao20 t658.length co20] 25 (0, 0)) q30_ hb); have n3_ := Aside0.mk (blk_below (g := gb652) (o := .cells #[.int .i64 a1_0, .int .i64 a1_1, .int .i64 a1_2] 35 (0, 0)) q49_ hb); have n4_ := Aside0.mk (below_step q11_ hb); clear HO657; clear HO660; clear BK651; clear BK652; clear HB; have HO657 := n0_; have HO660 := n1_; have BK651 := n2_; have BK652 := n3_; have HB := n4_; clear n0_ n1_ n2_ n3_ n4_; (try clear hb); (try clear hb2); (try clear hk); (try clear hi); have hcz25_0 : w24.cell? ⟨gb651, 0, none⟩ = some (.int .i64 t654) := (blk_cell BK651.out 0).trans rfl; have hcz25_1 : w24.cell? ⟨gb651, 1, none⟩ = some (.slice Ao19 t655.length co19) := (blk_cell BK651.out 1).trans rfl; have hcz25_2 : w24.cell? ⟨gb651, 2, none⟩ = some (.slice Ao20 t658.length co20) := (blk_cell BK651.out 2).trans rfl; have hfz25_0 := blk_frozen BK651.out 0; have hfz25_1 := blk_frozen BK651.out 1; have hfz25_2 := blk_frozen BK651.out 2; have hcz26_0 : w24.cell? ⟨gb652, 0, none⟩ = some (.int .i64 a1_0) := (blk_cell BK652.out 0).trans rfl; have hcz26_1 : w24.cell? ⟨gb652, 1, none⟩ = some (.int .i64 a1_1) := (blk_cell BK652.out 1).trans rfl; have hcz26_2 : w24.cell? ⟨gb652, 2, none⟩ = some (.int .i64 a1_2) := (blk_cell BK652.out 2).trans rfl; have hfz26_0 := blk_frozen BK652.out 0; have hfz26_1 := blk_frozen BK652.out 1; have hfz26_2 := blk_frozen BK652.out 2) | ((with_reducible refine gate_callee (f := 19) rfl ?_); refine goesL_ (some 31) rfl rfl Try.func19 q8_ rfl #[.agg #[.int .i64 t654, .slice Ao19 t655.length co19, .slice Ao20 t658.length co20], .agg #[.int .i64 a1_0, .int .i64 a1_1, .int .i64 a1_2]] rfl q1_ ?_; (with_reducible refine (cambiumref06_Seek.calls k t654 _ _ t655 _ _ t658 a1_0 a1_1 a1_2 t664 t665 _ ?side1 ?side2 ?side3 ?side4 A8.out).mono ?_); (case side1 => repeat (first | exact (Kd.V_reads' HO657.out).2.2 | (with_reducible refine Kd.C_alloc ?_ _) | (with_reducible refine Kd.C_drewN ?_ _) | (with_reducible refine Kd.C_drew ?_))); (case side2 => exact (Kd.V_reads' HO657.out).2.1); (case side3 => repeat (first | exact (Kd.V_reads' HO660.out).2.2 | (with_reducible refine Kd.C_alloc ?_ _) | (with_reducible refine Kd.C_drewN ?_ _) | (with_reducible refine Kd.C_drew ?_))); (case side4 => exact (Kd.V_reads' HO660.out).2.1); rintro e w27 ⟨rfl, hb⟩; refine ⟨_, rfl, ?_⟩; have n0_ := Aside0.mk (Kd.V_below q185_ hb); have n1_ := Aside0.mk (Kd.V_below q186_ hb); have n2_ := Aside0.mk (blk_below (g := gb651) (o := .cells #[.int .i64 t654, .slice Ao19 t655.length co19, .slice Ao20 t658.length co20] 25 (0, 0)) q30_ hb); have n3_ := Aside0.mk (blk_below (g := gb652) (o := .cells #[.int .i64 a1_0, .int .i64 a1_1, .int .i64 a1_2] 35 (0, 0)) q49_ hb); have n4_ := Aside0.mk (below_step q11_ hb); clear HO657; clear HO660; clear BK651; clear BK652; clear HB; have HO657 := n0_; have HO660 := n1_; have BK651 := n2_; have BK652 := n3_; have HB := n4_; clear n0_ n1_ n2_ n3_ n4_; (try clear hb); (try clear hb2); (try clear hk); (try clear hi); have hcz28_0 : w27.cell? ⟨gb651, 0, none⟩ = some (.int .i64 t654) := (blk_cell BK651.out 0).trans rfl; have hcz28_1 : w27.cell? ⟨gb651, 1, none⟩ = some (.slice Ao19 t655.length co19) := (blk_cell BK651.out 1).trans rfl; have hcz28_2 : w27.cell? ⟨gb651, 2, none⟩ = some (.slice Ao20 t658.length co20) := (blk_cell BK651.out 2).trans rfl; have hfz28_0 := blk_frozen BK651.out 0; have hfz28_1 := blk_frozen BK651.out 1; have hfz28_2 := blk_frozen BK651.out 2) | ((with_reducible refine gate_callee (f := 20) rfl ?_); refine goesL_ (some 35) rfl rfl Try.func20 q8_ rfl #[.agg #[.int .i64 t654, .slice Ao19 t655.length co19, .slice Ao20 t658.length co20]] rfl q1_ ?_; (with_reducible refine (node_Kids.calls k t654 _ _ t655 _ _ t658 t666 _ ?side1 ?side2 ?side3 ?side4 A9.out).mono ?_); (case side1 => repeat (first | exact (Kd.V_reads' HO657.out).2.2 | (with_reducible refine Kd.C_alloc ?_ _) | (with_reducible refine Kd.C_drewN ?_ _) | (with_reducible refine Kd.C_drew ?_))); (case side2 => exact (Kd.V_reads' HO657.out).2.1); (case side3 => repeat (first | exact (Kd.V_reads' HO660.out).2.2 | (with_reducible refine Kd.C_alloc ?_ _) | (with_reducible refine Kd.C_drewN ?_ _) | (with_reducible refine Kd.C_drew ?_))); (case side4 => exact (Kd.V_reads' HO660.out).2.1); rintro e w29 ⟨v667, rfl, ho0, hb⟩; refine ⟨_, rfl, ?_⟩; have n0_ := Aside0.mk (Kd.V_elder' q185_ (Kd.R_base ho0) hb); have n1_ := Aside0.mk (Kd.V_elder' q186_ (Kd.R_base ho0) hb); have n2_ := Aside0.mk (Kd.R_lower ho0 (below_size q11_)); have n3_ := Aside0.mk (blk_below (g := gb651) (o := .cells #[.int .i64 t654, .slice Ao19 t655.length co19, .slice Ao20 t658.length co20] 25 (0, 0)) q30_ hb); have n4_ := Aside0.mk (blk_below (g := gb652) (o := .cells #[.int .i64 a1_0, .int .i64 a1_1, .int .i64 a1_2] 35 (0, 0)) q49_ hb); have n5_ := Aside0.mk (below_step q11_ hb); clear HO657; clear HO660; clear BK651; clear BK652; clear HB; have HO657 := n0_; have HO660 := n1_; have HO668 := n2_; have BK651 := n3_; have BK652 := n4_; have HB := n5_; clear n0_ n1_ n2_ n3_ n4_ n5_; (try clear hb); (try clear hb2); (try clear hk); (try clear hi); (try clear ho0); have hcz30_0 : w29.cell? ⟨gb651, 0, none⟩ = some (.int .i64 t654) := (blk_cell BK651.out 0).trans rfl; have hcz30_1 : w29.cell? ⟨gb651, 1, none⟩ = some (.slice Ao19 t655.length co19) := (blk_cell BK651.out 1).trans rfl; have hcz30_2 : w29.cell? ⟨gb651, 2, none⟩ = some (.slice Ao20 t658.length co20) := (blk_cell BK651.out 2).trans rfl; have hfz30_0 := blk_frozen BK651.out 0; have hfz30_1 := blk_frozen BK651.out 1; have hfz30_2 := blk_frozen BK651.out 2) | ((with_reducible refine gate_callee (f := 21) rfl ?_); refine goesL_ (some 37) rfl rfl Try.func21 q8_ rfl #[.agg #[.int .i64 t654, .slice Ao19 t655.length co19, .slice Ao20 t658.length co20]] rfl q1_ ?_; (with_reducible refine (cambiumref06_Kids.calls k t654 _ _ t655 _ _ t658 t669 _ ?side1 ?side2 ?side3 ?side4 A10.out).mono ?_); (case side1 => repeat (first | exact (Kd.V_reads' HO657.out).2.2 | (with_reducible refine Kd.C_alloc ?_ _) | (with_reducible refine Kd.C_drewN ?_ _) | (with_reducible refine Kd.C_drew ?_))); (case side2 => exact (Kd.V_reads' HO657.out).2.1); (case side3 => repeat (first | exact (Kd.V_reads' HO660.out).2.2 | (with_reducible refine Kd.C_alloc ?_ _) | (with_reducible refine Kd.C_drewN ?_ _) | (with_reducible refine Kd.C_drew ?_))); (case side4 => exact (Kd.V_reads' HO660.out).2.1); rintro e w31 ⟨v670, rfl, ho0, hb⟩; refine ⟨_, rfl, ?_⟩; have n0_ := Aside0.mk (Kd.V_elder' q185_ (Kd.R_base ho0) hb); have n1_ := Aside0.mk (Kd.V_elder' q186_ (Kd.R_base ho0) hb); have n2_ := Aside0.mk (Kd.R_elder' (by (with_reducible repeat (first | apply Kd.R_alloc | apply Kd.R_drewN | apply Kd.R_drew)); exact HO668.out) (Kd.R_base ho0) hb); have n3_ := Aside0.mk (Kd.R_lower (Kd.R_new' ho0 (Kd.R_lt (by (with_reducible repeat (first | apply Kd.R_alloc | apply Kd.R_drewN | apply Kd.R_drew)); exact HO668.out))) (below_size q11_)); have n4_ := Aside0.mk (blk_below (g := gb651) (o := .cells #[.int .i64 t654, .slice Ao19 t655.length co19, .slice Ao20 t658.length co20] 25 (0, 0)) q30_ hb); have n5_ := Aside0.mk (blk_below (g := gb652) (o := .cells #[.int .i64 a1_0, .int .i64 a1_1, .int .i64 a1_2] 35 (0, 0)) q49_ hb); have n6_ := Aside0.mk (below_step q11_ hb); clear HO657; clear HO660; clear HO668; clear BK651; clear BK652; clear HB; have HO657 := n0_; have HO660 := n1_; have HO668 := n2_; have HO671 := n3_; have BK651 := n4_; have BK652 := n5_; have HB := n6_; clear n0_ n1_ n2_ n3_ n4_ n5_ n6_; (try clear hb); (try clear hb2); (try clear hk); (try clear hi); (try clear ho0)))
  (try simp only [Act.put, List.setIfInBounds_toArray, List.set_cons_zero, List.set_cons_succ])
  go_cut [59] (fun v59 wc => ∃ (kq : Nat) (x59_10 : Bool), v59 = .bool x59_10 ∧ Aside0 (cambiumlaw06_NodeSeeks.j0 kq t653 t666 t669 x59_10 = some r) ∧ Aside0 (kq ≤ k) ∧ Aside0 (Kd.R (Kd.int .i64) 3 wc w.heap.size (fun k_ => some k_ ≠ (v670 : Value).ownBlock) v667 t666) ∧ Aside0 (Kd.R (Kd.int .i64) 3 wc w.heap.size (fun k_ => some k_ ≠ (v667 : Value).ownBlock) v670 t669) ∧ Aside0 (Kd.V k52 52 wc w.heap.size (fun k_ => some k_ ≠ (v667 : Value).ownBlock ∧ some k_ ≠ (v670 : Value).ownBlock ∧ k_ ≠ gb651 ∧ k_ ≠ gb652) (.slice Ao19 t655.length co19) t655) ∧ Aside0 (Kd.V k57 57 wc w.heap.size (fun k_ => some k_ ≠ (v667 : Value).ownBlock ∧ some k_ ≠ (v670 : Value).ownBlock ∧ k_ ≠ gb651 ∧ k_ ≠ gb652) (.slice Ao20 t658.length co20) t658) ∧ Aside0 (wc.heap[gb651]? = some (.cells #[.int .i64 t654, (.slice Ao19 t655.length co19), (.slice Ao20 t658.length co20)] 25 (0, 0))) ∧ Aside0 (wc.heap[gb652]? = some (.cells #[.int .i64 a1_0, .int .i64 a1_1, .int .i64 a1_2] 35 (0, 0))) ∧ Aside0 (Below w.heap.size w wc))
  case first =>
   have H := HC11.out
   clear HC11
   by_cases c32 : t662 = t664
   ·rw [if_pos c32] at H
    have c32b0 : (t662 == t664) = true := beq_iff_eq.mpr c32
    have c32b1 : (t662 != t664) = false := bne_eq_false_iff_eq.mpr c32
    clear c32
    (first | rw [c32b0] | (simp only [i64_w, i32_w]; rw [c32b0]) | skip)
    by_cases c33 : (t663 != t665) = true
    ·rw [if_pos c33] at H
     have c33b0 : (t663 != t665) = true := c33
     (try (have c33b1 : decide (t663 = t665) = false := by simpa using c33))
     (try (have c33b2 : (t663 == t665) = false := by simpa using c33))
     (try (have c33b3 : ¬ (t663 = t665) := by simpa using c33))
     clear c33
     have H' := Aside0.mk H
     clear H
     try go_wp2
     have n0_ := Aside0.mk (Kd.V_drew HO657.out)
     have n1_ := Aside0.mk (Kd.V_drew HO660.out)
     have n2_ := Aside0.mk (Kd.R_drew HO668.out)
     have n3_ := Aside0.mk (Kd.R_drew HO671.out)
     have n4_ := Aside0.mk (blk_drew BK651.out)
     have n5_ := Aside0.mk (blk_drew BK652.out)
     have n6_ := Aside0.mk (below_drew1 HB.out)
     clear HO657
     clear HO660
     clear HO668
     clear HO671
     clear BK651
     clear BK652
     clear HB
     have HO657 := n0_
     have HO660 := n1_
     have HO668 := n2_
     have HO671 := n3_
     have BK651 := n4_
     have BK652 := n5_
     have HB := n6_
     clear n0_ n1_ n2_ n3_ n4_ n5_ n6_
     refine start_ (n := 22) (S := fun w' => True) (ds := []) (bl_ 22 0) q8_ rfl rfl trivial (fun hHeld => ?_); refine with_tabW cambiumlaw06_NodeSeeks.tab10 cambiumlaw06_NodeSeeks.bits10 (fun HT_ HW_ => ?_)
     generalize w31.drew = w34 at HO657 HO660 HO668 HO671 BK651 BK652 HB hHeld ⊢
     refine pure_ (i := 0) (N := some 38) (v := ?_) (a' := ?_) (bl_ 22 1) rfl rfl (any_of HT_.out q8_) (fun _ _ _ h => h) (Or.inl ⟨by rfl, ?_⟩) ?_ ?_
     rotate_left
     ·intro w'
      go_simp
      with_reducible rfl
     rotate_left
     ·simp only [Act.put, List.setIfInBounds_toArray, List.set_cons_zero, List.set_cons_succ, i64_w, i32_w]
      rfl
     refine pure_ (i := 1) (N := some 39) (v := ?_) (a' := ?_) (bl_ 22 3) rfl rfl (any_of HT_.out q8_) (fun _ _ _ h => h) (Or.inl ⟨by rfl, ?_⟩) ?_ ?_
     rotate_left
     ·intro w'
      go_simp
      with_reducible rfl
     rotate_left
     ·simp only [Act.put, List.setIfInBounds_toArray, List.set_cons_zero, List.set_cons_succ, i64_w, i32_w]
      rfl
     refine pure_ (i := 2) (N := some 40) (v := ?_) (a' := ?_) (bl_ 22 7) rfl rfl (any_of HT_.out q8_) (fun _ _ _ h => h) (Or.inl ⟨by rfl, ?_⟩) ?_ ?_
     rotate_left
     ·intro w'
      go_simp
      with_reducible rfl
     rotate_left
     ·simp only [Act.put, List.setIfInBounds_toArray, List.set_cons_zero, List.set_cons_succ, i64_w, i32_w]
      rfl
     refine pure_ (i := 3) (N := some 41) (v := ?_) (a' := ?_) (bl_ 22 15) rfl rfl (any_of HT_.out q8_) (fun _ _ _ h => h) (Or.inl ⟨by rfl, ?_⟩) ?_ ?_
     rotate_left
     ·intro w'
      go_simp
      with_reducible rfl
     rotate_left
     ·simp only [Act.put, List.setIfInBounds_toArray, List.set_cons_zero, List.set_cons_succ, i64_w, i32_w]
      rfl
     refine pure_ (i := 4) (N := some 42) (v := ?_) (a' := ?_) (bl_ 22 31) rfl rfl (any_of HT_.out q8_) (fun _ _ _ h => h) (Or.inl ⟨by rfl, ?_⟩) ?_ ?_
     rotate_left
     ·intro w'
      go_simp
      with_reducible rfl
     rotate_left
     ·simp only [Act.put, List.setIfInBounds_toArray, List.set_cons_zero, List.set_cons_succ, i64_w, i32_w]
      rfl
     refine pure_ (i := 5) (N := some 43) (v := ?_) (a' := ?_) (bl_ 22 63) rfl rfl (any_of HT_.out q8_) (fun _ _ _ h => h) (Or.inl ⟨by rfl, ?_⟩) ?_ ?_
     rotate_left
     ·intro w'
      go_simp
      with_reducible rfl
     rotate_left
     ·simp only [Act.put, List.setIfInBounds_toArray, List.set_cons_zero, List.set_cons_succ, i64_w, i32_w]
      rfl
     refine pure_ (i := 6) (N := some 44) (v := ?_) (a' := ?_) (bl_ 22 127) rfl rfl (any_of HT_.out q8_) (fun _ _ _ h => h) (Or.inl ⟨by rfl, ?_⟩) ?_ ?_
     rotate_left
     ·intro w'
      go_simp
      with_reducible rfl
     rotate_left
     ·simp only [Act.put, List.setIfInBounds_toArray, List.set_cons_zero, List.set_cons_succ, i64_w, i32_w]
      rfl
     refine pure_ (i := 7) (N := some 45) (v := ?_) (a' := ?_) (bl_ 22 255) rfl rfl (any_of HT_.out q8_) (fun _ _ _ h => h) (Or.inl ⟨by rfl, ?_⟩) ?_ ?_
     rotate_left
     ·intro w'
      go_simp
      with_reducible rfl
     rotate_left
     ·simp only [Act.put, List.setIfInBounds_toArray, List.set_cons_zero, List.set_cons_succ, i64_w, i32_w]
      rfl
     refine pure_ (i := 8) (N := some 46) (v := ?_) (a' := ?_) (bl_ 22 511) rfl rfl (any_of HT_.out q8_) (fun _ _ _ h => h) (Or.inl ⟨by rfl, ?_⟩) ?_ ?_
     rotate_left
     ·intro w'
      go_simp
      with_reducible rfl
     rotate_left
     ·simp only [Act.put, List.setIfInBounds_toArray, List.set_cons_zero, List.set_cons_succ, i64_w, i32_w]
      rfl
     refine pure_ (i := 9) (N := some 47) (v := undef) (a' := ?_) (bl_ 22 1023) rfl rfl (any_of HT_.out q8_) (fun _ _ _ h => h) (Or.inr ⟨by rfl, rfl⟩) ?_ ?_
     rotate_left
     ·simp only [Act.put, List.setIfInBounds_toArray, List.set_cons_zero, List.set_cons_succ, i64_w, i32_w]
      rfl
     refine pure_ (i := 10) (N := some 48) (v := undef) (a' := ?_) (bl_ 22 2047) rfl rfl (any_of HT_.out q8_) (fun _ _ _ h => h) (Or.inr ⟨by rfl, rfl⟩) ?_ ?_
     rotate_left
     ·simp only [Act.put, List.setIfInBounds_toArray, List.set_cons_zero, List.set_cons_succ, i64_w, i32_w]
      rfl
     refine pure_ (i := 11) (N := some 49) (v := undef) (a' := ?_) (bl_ 22 4095) rfl rfl (any_of HT_.out q8_) (fun _ _ _ h => h) (Or.inr ⟨by rfl, rfl⟩) ?_ ?_
     rotate_left
     ·simp only [Act.put, List.setIfInBounds_toArray, List.set_cons_zero, List.set_cons_succ, i64_w, i32_w]
      rfl
     refine pure_ (i := 12) (N := some 50) (v := undef) (a' := ?_) (bl_ 22 8191) rfl rfl (any_of HT_.out q8_) (fun _ _ _ h => h) (Or.inr ⟨by rfl, rfl⟩) ?_ ?_
     rotate_left
     ·simp only [Act.put, List.setIfInBounds_toArray, List.set_cons_zero, List.set_cons_succ, i64_w, i32_w]
      rfl
     refine pure_ (i := 13) (N := some 51) (v := undef) (a' := ?_) (bl_ 22 16383) rfl rfl (any_of HT_.out q8_) (fun _ _ _ h => h) (Or.inr ⟨by rfl, rfl⟩) ?_ ?_
     rotate_left
     ·simp only [Act.put, List.setIfInBounds_toArray, List.set_cons_zero, List.set_cons_succ, i64_w, i32_w]
      rfl
     refine pure_ (i := 14) (N := some 52) (v := ?_) (a' := ?_) (bl_ 22 32767) rfl rfl (any_of HT_.out q8_) (fun _ _ _ h => h) (Or.inl ⟨by rfl, ?_⟩) ?_ ?_
     rotate_left
     ·intro w'
      go_simp
      with_reducible rfl
     rotate_left
     ·simp only [Act.put, List.setIfInBounds_toArray, List.set_cons_zero, List.set_cons_succ, i64_w, i32_w]
      rfl
     refine pure_ (i := 15) (N := some 53) (v := ?_) (a' := ?_) (bl_ 22 65535) rfl rfl (any_of HT_.out q8_) (fun _ _ _ h => h) (Or.inl ⟨by rfl, ?_⟩) ?_ ?_
     rotate_left
     ·intro w'
      go_simp
      with_reducible rfl
     rotate_left
     ·simp only [Act.put, List.setIfInBounds_toArray, List.set_cons_zero, List.set_cons_succ, i64_w, i32_w]
      rfl
     refine pure_ (i := 16) (N := some 54) (v := undef) (a' := ?_) (bl_ 22 131071) rfl rfl (any_of HT_.out q8_) (fun _ _ _ h => h) (Or.inr ⟨by rfl, rfl⟩) ?_ ?_
     rotate_left
     ·simp only [Act.put, List.setIfInBounds_toArray, List.set_cons_zero, List.set_cons_succ, i64_w, i32_w]
      rfl
     refine pure_ (i := 17) (N := some 55) (v := undef) (a' := ?_) (bl_ 22 262143) rfl rfl (any_of HT_.out q8_) (fun _ _ _ h => h) (Or.inr ⟨by rfl, rfl⟩) ?_ ?_
     rotate_left
     ·simp only [Act.put, List.setIfInBounds_toArray, List.set_cons_zero, List.set_cons_succ, i64_w, i32_w]
      rfl
     refine pure_ (i := 18) (N := some 56) (v := undef) (a' := ?_) (bl_ 22 524287) rfl rfl (any_of HT_.out q8_) (fun _ _ _ h => h) (Or.inr ⟨by rfl, rfl⟩) ?_ ?_
     rotate_left
     ·simp only [Act.put, List.setIfInBounds_toArray, List.set_cons_zero, List.set_cons_succ, i64_w, i32_w]
      rfl
     refine pure_ (i := 19) (N := some 57) (v := undef) (a' := ?_) (bl_ 22 1048575) rfl rfl (any_of HT_.out q8_) (fun _ _ _ h => h) (Or.inr ⟨by rfl, rfl⟩) ?_ ?_
     rotate_left
     ·simp only [Act.put, List.setIfInBounds_toArray, List.set_cons_zero, List.set_cons_succ, i64_w, i32_w]
      rfl
     refine pure_ (i := 20) (N := some 58) (v := undef) (a' := ?_) (bl_ 22 2097151) rfl rfl (any_of HT_.out q8_) (fun _ _ _ h => h) (Or.inr ⟨by rfl, rfl⟩) ?_ ?_
     rotate_left
     ·simp only [Act.put, List.setIfInBounds_toArray, List.set_cons_zero, List.set_cons_succ, i64_w, i32_w]
      rfl
     refine pure_ (i := 21) (N := some 59) (v := ?_) (a' := ?_) (bl_ 22 4194303) rfl rfl (any_of HT_.out q8_) (fun _ _ _ h => h) (Or.inl ⟨by rfl, ?_⟩) ?_ ?_
     rotate_left
     ·intro w'
      go_simp
      with_reducible rfl
     rotate_left
     ·simp only [Act.put, List.setIfInBounds_toArray, List.set_cons_zero, List.set_cons_succ, i64_w, i32_w]
      rfl
     refine done_ (done_of HT_.out q8_) ?_
     try go_wp2
     go_meet
     case rel => exact ⟨_, (true), q14_, H', ⟨q219_⟩, ⟨q220_⟩, ⟨q221_⟩, ⟨q179_⟩, ⟨q180_⟩, ⟨q30_⟩, ⟨q49_⟩, ⟨q11_⟩⟩
    ·rw [if_neg c33] at H
     have c33b0 : (t663 != t665) = false := by simpa using c33
     (try (have c33b1 : decide (t663 = t665) = true := by simpa using c33))
     (try (have c33b2 : (t663 == t665) = true := by simpa using c33))
     clear c33
     by_cases c35 : (t666.length : Int) = (t669.length : Int)
     ·rw [if_pos c35] at H
      have c35b0 : ((t666.length : Int) == (t669.length : Int)) = true := beq_iff_eq.mpr c35
      have c35b1 : ((t666.length : Int) != (t669.length : Int)) = false := bne_eq_false_iff_eq.mpr c35
      have c35b2 : (t666.length == t669.length) = true := by first | simpa using c35 | (simp at c35 ⊢; omega)
      clear c35
      replace H := Option.bind_eq_some_iff.mp H
      obtain ⟨⟨t672, t673, t674⟩, A360, H⟩ := H
      replace H : ((cambiumref06_Least.f k t654 t655 t658).bind fun bt675 => (cambiumlaw06_NodeSeeks.j0 k t653 t666 t669 (!(t672 == bt675.1) || (!(t673 == bt675.2.1) || (!(t674 == bt675.2.2)))))) = some r := H
      have A36 := Aside0.mk A360
      clear A360
      replace H := Option.bind_eq_some_iff.mp H
      obtain ⟨⟨t675, t676, t677⟩, A370, H⟩ := H
      replace H : (cambiumlaw06_NodeSeeks.j0 k t653 t666 t669 (!(t672 == t675) || (!(t673 == t676) || (!(t674 == t677))))) = some r := H
      have A37 := Aside0.mk A370
      clear A370
      have H' := Aside0.mk H
      clear H
      try go_wp2
      have n0_ := Aside0.mk (Kd.V_drew HO657.out)
      have n1_ := Aside0.mk (Kd.V_drew HO660.out)
      have n2_ := Aside0.mk (Kd.R_drew HO668.out)
      have n3_ := Aside0.mk (Kd.R_drew HO671.out)
      have n4_ := Aside0.mk (blk_drew BK651.out)
      have n5_ := Aside0.mk (blk_drew BK652.out)
      have n6_ := Aside0.mk (below_drew1 HB.out)
      clear HO657
      clear HO660
      clear HO668
      clear HO671
      clear BK651
      clear BK652
      clear HB
      have HO657 := n0_
      have HO660 := n1_
      have HO668 := n2_
      have HO671 := n3_
      have BK651 := n4_
      have BK652 := n5_
      have HB := n6_
      clear n0_ n1_ n2_ n3_ n4_ n5_ n6_
      obtain ⟨Ao39, co39, eo39⟩ := Kd.R_slice HO668.out
      (first | subst eo39 | (injection eo39 with f1_ f2_ f3_; have f4_ := f1_.symm; have f5_ := f3_.symm; clear f1_ f2_ f3_; subst f4_; subst f5_))
      obtain ⟨Ao40, co40, eo40⟩ := Kd.R_slice HO671.out
      (first | subst eo40 | (injection eo40 with f1_ f2_ f3_; have f4_ := f1_.symm; have f5_ := f3_.symm; clear f1_ f2_ f3_; subst f4_; subst f5_))
      refine start_ (n := 22) (S := fun w' => w'.cell? ⟨gb651, 0, none⟩ = some (.int .i64 t654) ∧ w'.cell? ⟨gb651, 1, none⟩ = some (.slice Ao19 t655.length co19) ∧ w'.cell? ⟨gb651, 2, none⟩ = some (.slice Ao20 t658.length co20)) (ds := []) (bl_ 22 0) q8_ rfl rfl ⟨(blk_cell BK651.out 0).trans rfl, (blk_cell BK651.out 1).trans rfl, (blk_cell BK651.out 2).trans rfl⟩ (fun hHeld => ?_); refine with_tabW cambiumlaw06_NodeSeeks.tab10 cambiumlaw06_NodeSeeks.bits10 (fun HT_ HW_ => ?_)
      generalize w31.drew = w38 at HO657 HO660 HO668 HO671 BK651 BK652 HB hHeld ⊢
      refine pure_ (i := 0) (N := some 38) (v := ?_) (a' := ?_) (bl_ 22 1) rfl rfl (any_of HT_.out q8_) (fun _ _ _ h => h) (Or.inl ⟨by rfl, ?_⟩) ?_ ?_
      rotate_left
      ·intro w'
       go_simp
       with_reducible rfl
      rotate_left
      ·simp only [Act.put, List.setIfInBounds_toArray, List.set_cons_zero, List.set_cons_succ, i64_w, i32_w]
       rfl
      refine pure_ (i := 1) (N := some 39) (v := ?_) (a' := ?_) (bl_ 22 3) rfl rfl (any_of HT_.out q8_) (fun _ _ _ h => h) (Or.inl ⟨by rfl, ?_⟩) ?_ ?_
      rotate_left
      ·intro w'
       go_simp
       with_reducible rfl
      rotate_left
      ·simp only [Act.put, List.setIfInBounds_toArray, List.set_cons_zero, List.set_cons_succ, i64_w, i32_w]
       rfl
      refine pure_ (i := 2) (N := some 40) (v := ?_) (a' := ?_) (bl_ 22 7) rfl rfl (any_of HT_.out q8_) (fun _ _ _ h => h) (Or.inl ⟨by rfl, ?_⟩) ?_ ?_
      rotate_left
      ·intro w'
       go_simp
       with_reducible rfl
      rotate_left
      ·simp only [Act.put, List.setIfInBounds_toArray, List.set_cons_zero, List.set_cons_succ, i64_w, i32_w]
       rfl
      refine pure_ (i := 3) (N := some 41) (v := ?_) (a' := ?_) (bl_ 22 15) rfl rfl (any_of HT_.out q8_) (fun _ _ _ h => h) (Or.inl ⟨by rfl, ?_⟩) ?_ ?_
      rotate_left
      ·intro w'
       go_simp
       with_reducible rfl
      rotate_left
      ·simp only [Act.put, List.setIfInBounds_toArray, List.set_cons_zero, List.set_cons_succ, i64_w, i32_w]
       rfl
      refine pure_ (i := 4) (N := some 42) (v := ?_) (a' := ?_) (bl_ 22 31) rfl rfl (any_of HT_.out q8_) (fun _ _ _ h => h) (Or.inl ⟨by rfl, ?_⟩) ?_ ?_
      rotate_left
      ·intro w'
       go_simp
       with_reducible rfl
      rotate_left
      ·simp only [Act.put, List.setIfInBounds_toArray, List.set_cons_zero, List.set_cons_succ, i64_w, i32_w]
       rfl
      refine pure_ (i := 5) (N := some 43) (v := ?_) (a' := ?_) (bl_ 22 63) rfl rfl (any_of HT_.out q8_) (fun _ _ _ h => h) (Or.inl ⟨by rfl, ?_⟩) ?_ ?_
      rotate_left
      ·intro w'
       go_simp
       with_reducible rfl
      rotate_left
      ·simp only [Act.put, List.setIfInBounds_toArray, List.set_cons_zero, List.set_cons_succ, i64_w, i32_w]
       rfl
      refine pure_ (i := 6) (N := some 44) (v := ?_) (a' := ?_) (bl_ 22 127) rfl rfl (any_of HT_.out q8_) (fun _ _ _ h => h) (Or.inl ⟨by rfl, ?_⟩) ?_ ?_
      rotate_left
      ·intro w'
       go_simp
       with_reducible rfl
      rotate_left
      ·simp only [Act.put, List.setIfInBounds_toArray, List.set_cons_zero, List.set_cons_succ, i64_w, i32_w]
       rfl
      refine pure_ (i := 7) (N := some 45) (v := ?_) (a' := ?_) (bl_ 22 255) rfl rfl (any_of HT_.out q8_) (fun _ _ _ h => h) (Or.inl ⟨by rfl, ?_⟩) ?_ ?_
      rotate_left
      ·intro w'
       go_simp
       with_reducible rfl
      rotate_left
      ·simp only [Act.put, List.setIfInBounds_toArray, List.set_cons_zero, List.set_cons_succ, i64_w, i32_w]
       rfl
      refine pure_ (i := 8) (N := some 46) (v := ?_) (a' := ?_) (bl_ 22 511) rfl rfl (any_of HT_.out q8_) (fun _ _ _ h => h) (Or.inl ⟨by rfl, ?_⟩) ?_ ?_
      rotate_left
      ·intro w'
       go_simp
       with_reducible rfl
      rotate_left
      ·simp only [Act.put, List.setIfInBounds_toArray, List.set_cons_zero, List.set_cons_succ, i64_w, i32_w]
       rfl
      refine pure_ (i := 9) (N := some 47) (v := ?_) (a' := ?_) (bl_ 22 1023) rfl rfl (any_of HT_.out q8_) (fun _ _ _ h => h) (Or.inl ⟨by rfl, ?_⟩) ?_ ?_
      rotate_left
      ·intro w'
       go_simp
       with_reducible rfl
      rotate_left
      ·simp only [Act.put, List.setIfInBounds_toArray, List.set_cons_zero, List.set_cons_succ, i64_w, i32_w]
       rfl
      refine pure_ (i := 10) (N := some 48) (v := ?_) (a' := ?_) (bl_ 22 2047) rfl rfl (any_of HT_.out q8_) (fun _ _ _ h => h) (Or.inl ⟨by rfl, ?_⟩) ?_ ?_
      rotate_left
      ·intro w'
       go_simp
       with_reducible rfl
      rotate_left
      ·simp only [Act.put, List.setIfInBounds_toArray, List.set_cons_zero, List.set_cons_succ, i64_w, i32_w]
       rfl
      refine pure_ (i := 11) (N := some 49) (v := ?_) (a' := ?_) (bl_ 22 4095) rfl rfl (any_of HT_.out q8_) (fun _ _ _ h => h) (Or.inl ⟨by rfl, ?_⟩) ?_ ?_
      rotate_left
      ·intro w'
       go_simp
       with_reducible rfl
      rotate_left
      ·simp only [Act.put, List.setIfInBounds_toArray, List.set_cons_zero, List.set_cons_succ, i64_w, i32_w]
       rfl
      refine pure_ (i := 12) (N := some 50) (v := ?_) (a' := ?_) (bl_ 22 8191) rfl rfl (any_of HT_.out q8_) (fun _ _ _ h => h) (Or.inl ⟨by rfl, ?_⟩) ?_ ?_
      rotate_left
      ·intro w'
       go_simp
       with_reducible rfl
      rotate_left
      ·simp only [Act.put, List.setIfInBounds_toArray, List.set_cons_zero, List.set_cons_succ, i64_w, i32_w]
       rfl
      refine pure_ (i := 13) (N := some 51) (v := ?_) (a' := ?_) (bl_ 22 16383) rfl rfl (any_of HT_.out q8_) (fun _ _ _ h => h) (Or.inl ⟨by rfl, ?_⟩) ?_ ?_
      rotate_left
      ·intro w'
       go_simp
       with_reducible rfl
      rotate_left
      ·simp only [Act.put, List.setIfInBounds_toArray, List.set_cons_zero, List.set_cons_succ, i64_w, i32_w]
       rfl
      refine pure_ (i := 14) (N := some 52) (v := ?_) (a' := ?_) (bl_ 22 32767) rfl rfl (any_of HT_.out q8_) (fun _ _ _ h => h) (Or.inl ⟨by rfl, ?_⟩) ?_ ?_
      rotate_left
      ·intro w'
       go_simp
       with_reducible rfl
      rotate_left
      ·simp only [Act.put, List.setIfInBounds_toArray, List.set_cons_zero, List.set_cons_succ, i64_w, i32_w]
       rfl
      refine pure_ (i := 15) (N := some 53) (v := ?_) (a' := ?_) (bl_ 22 65535) rfl rfl (any_of HT_.out q8_) (fun _ _ _ h => h) (Or.inl ⟨by rfl, ?_⟩) ?_ ?_
      rotate_left
      ·intro w'
       go_simp
       with_reducible rfl
      rotate_left
      ·simp only [Act.put, List.setIfInBounds_toArray, List.set_cons_zero, List.set_cons_succ, i64_w, i32_w]
       rfl
      refine take_ (i := 16) (N := some 54) (v := ?_) (a' := ?_) (bl_ 22 131071) rfl rfl (take_ofW HT_.out HW_.out q8_) (fun _ _ _ h => h) (Or.inl ⟨by rfl, ?_⟩) hHeld ?_ ?_
      rotate_left
      ·rintro w' ⟨s0, s1, s2⟩
       go_simp
       with_reducible rfl
      rotate_left
      ·simp only [Act.put, List.setIfInBounds_toArray, List.set_cons_zero, List.set_cons_succ, i64_w, i32_w]
       rfl
      refine take_ (i := 18) (N := some 56) (v := ?_) (a' := ?_) (bl_ 22 393215) rfl rfl (take_ofW HT_.out HW_.out q8_) (fun _ _ _ h => h) (Or.inl ⟨by rfl, ?_⟩) hHeld ?_ ?_
      rotate_left
      ·rintro w' ⟨s0, s1, s2⟩
       go_simp
       with_reducible rfl
      rotate_left
      ·simp only [Act.put, List.setIfInBounds_toArray, List.set_cons_zero, List.set_cons_succ, i64_w, i32_w]
       rfl
      refine one_ (i := 17) (N := some 55) (bl_ 22 524287) rfl rfl (one_of HT_.out q8_) q210_ (fun K hK => ?_)
      refine goes_ Try.func18 q8_ rfl #[.agg #[.int .i64 t654, .slice Ao19 t655.length co19, .slice Ao20 t658.length co20]] (by rfl) rfl rfl q1_ ?_
      with_reducible refine (node_Least.calls t654 _ _ t655 _ _ t658 t672 t673 t674 _ ?side1 ?side2 ?side3 ?side4 A36.out).mono ?_
      (case side1 => repeat (first | exact (Kd.V_reads' HO657.out).2.2 | (with_reducible refine Kd.C_alloc ?_ _) | (with_reducible refine Kd.C_drewN ?_ _) | (with_reducible refine Kd.C_drew ?_)))
      (case side2 => exact (Kd.V_reads' HO657.out).2.1)
      (case side3 => repeat (first | exact (Kd.V_reads' HO660.out).2.2 | (with_reducible refine Kd.C_alloc ?_ _) | (with_reducible refine Kd.C_drewN ?_ _) | (with_reducible refine Kd.C_drew ?_)))
      (case side4 => exact (Kd.V_reads' HO660.out).2.1)
      rintro e w41 ⟨rfl, hb⟩
      refine ⟨_, rfl, ?_⟩
      have n0_ := Aside0.mk (Kd.V_below q185_ hb)
      have n1_ := Aside0.mk (Kd.V_below q186_ hb)
      have n2_ := Aside0.mk (Kd.R_below (by (with_reducible repeat (first | apply Kd.R_alloc | apply Kd.R_drewN | apply Kd.R_drew)); exact HO668.out) hb)
      have n3_ := Aside0.mk (Kd.R_below (by (with_reducible repeat (first | apply Kd.R_alloc | apply Kd.R_drewN | apply Kd.R_drew)); exact HO671.out) hb)
      have n4_ := Aside0.mk (blk_below (g := gb651) (o := .cells #[.int .i64 t654, .slice Ao19 t655.length co19, .slice Ao20 t658.length co20] 25 (0, 0)) q30_ hb)
      have n5_ := Aside0.mk (blk_below (g := gb652) (o := .cells #[.int .i64 a1_0, .int .i64 a1_1, .int .i64 a1_2] 35 (0, 0)) q49_ hb)
      have n6_ := Aside0.mk (below_step q11_ hb)
      clear HO657
      clear HO660
      clear HO668
      clear HO671
      clear BK651
      clear BK652
      clear HB
      have HO657 := n0_
      have HO660 := n1_
      have HO668 := n2_
      have HO671 := n3_
      have BK651 := n4_
      have BK652 := n5_
      have HB := n6_
      clear n0_ n1_ n2_ n3_ n4_ n5_ n6_
      (try clear hb)
      (try clear hb2)
      (try clear hk)
      (try clear hi)
      refine hK.out _ _ ⟨(blk_cell BK651.out 0).trans rfl, (blk_cell BK651.out 1).trans rfl, (blk_cell BK651.out 2).trans rfl⟩ (fun hHeld => ?_)
      clear hK K
      refine norm_ (a' := ?_) ?_ ?_
      rotate_left
      ·show Act.put _ (some 55) _ = _
       simp only [Act.put, List.setIfInBounds_toArray, List.set_cons_zero, List.set_cons_succ, i64_w, i32_w]
       rfl
      refine one_ (i := 19) (N := some 57) (bl_ 22 1048575) rfl rfl (one_of HT_.out q8_) q210_ (fun K hK => ?_)
      refine goes_ Try.func22 q8_ rfl #[.agg #[.int .i64 t654, .slice Ao19 t655.length co19, .slice Ao20 t658.length co20]] (by rfl) rfl rfl q1_ ?_
      with_reducible refine (cambiumref06_Least.calls k t654 _ _ t655 _ _ t658 t675 t676 t677 _ ?side1 ?side2 ?side3 ?side4 A37.out).mono ?_
      (case side1 => repeat (first | exact (Kd.V_reads' HO657.out).2.2 | (with_reducible refine Kd.C_alloc ?_ _) | (with_reducible refine Kd.C_drewN ?_ _) | (with_reducible refine Kd.C_drew ?_)))
      (case side2 => exact (Kd.V_reads' HO657.out).2.1)
      (case side3 => repeat (first | exact (Kd.V_reads' HO660.out).2.2 | (with_reducible refine Kd.C_alloc ?_ _) | (with_reducible refine Kd.C_drewN ?_ _) | (with_reducible refine Kd.C_drew ?_)))
      (case side4 => exact (Kd.V_reads' HO660.out).2.1)
      rintro e w42 ⟨rfl, hb⟩
      refine ⟨_, rfl, ?_⟩
      have n0_ := Aside0.mk (Kd.V_below q185_ hb)
      have n1_ := Aside0.mk (Kd.V_below q186_ hb)
      have n2_ := Aside0.mk (Kd.R_below (by (with_reducible repeat (first | apply Kd.R_alloc | apply Kd.R_drewN | apply Kd.R_drew)); exact HO668.out) hb)
      have n3_ := Aside0.mk (Kd.R_below (by (with_reducible repeat (first | apply Kd.R_alloc | apply Kd.R_drewN | apply Kd.R_drew)); exact HO671.out) hb)
      have n4_ := Aside0.mk (blk_below (g := gb651) (o := .cells #[.int .i64 t654, .slice Ao19 t655.length co19, .slice Ao20 t658.length co20] 25 (0, 0)) q30_ hb)
      have n5_ := Aside0.mk (blk_below (g := gb652) (o := .cells #[.int .i64 a1_0, .int .i64 a1_1, .int .i64 a1_2] 35 (0, 0)) q49_ hb)
      have n6_ := Aside0.mk (below_step q11_ hb)
      clear HO657
      clear HO660
      clear HO668
      clear HO671
      clear BK651
      clear BK652
      clear HB
      have HO657 := n0_
      have HO660 := n1_
      have HO668 := n2_
      have HO671 := n3_
      have BK651 := n4_
      have BK652 := n5_
      have HB := n6_
      clear n0_ n1_ n2_ n3_ n4_ n5_ n6_
      (try clear hb)
      (try clear hb2)
      (try clear hk)
      (try clear hi)
      refine hK.out _ _ ⟨(blk_cell BK651.out 0).trans rfl, (blk_cell BK651.out 1).trans rfl, (blk_cell BK651.out 2).trans rfl⟩ (fun hHeld => ?_)
      clear hK K
      refine norm_ (a' := ?_) ?_ ?_
      rotate_left
      ·show Act.put _ (some 57) _ = _
       simp only [Act.put, List.setIfInBounds_toArray, List.set_cons_zero, List.set_cons_succ, i64_w, i32_w]
       rfl
      refine pure_ (i := 20) (N := some 58) (v := ?_) (a' := ?_) (bl_ 22 2097151) rfl rfl (any_of HT_.out q8_) (fun _ _ _ h => h) (Or.inl ⟨by rfl, ?_⟩) ?_ ?_
      rotate_left
      ·intro w'
       go_simp
       with_reducible rfl
      rotate_left
      ·simp only [Act.put, List.setIfInBounds_toArray, List.set_cons_zero, List.set_cons_succ, i64_w, i32_w]
       rfl
      refine pure_ (i := 21) (N := some 59) (v := ?_) (a' := ?_) (bl_ 22 4194303) rfl rfl (any_of HT_.out q8_) (fun _ _ _ h => h) (Or.inl ⟨by rfl, ?_⟩) ?_ ?_
      rotate_left
      ·intro w'
       go_simp
       with_reducible rfl
      rotate_left
      ·simp only [Act.put, List.setIfInBounds_toArray, List.set_cons_zero, List.set_cons_succ, i64_w, i32_w]
       rfl
      refine done_ (done_of HT_.out q8_) ?_
      try go_wp2
      go_meet
      case rel => exact ⟨_, ((!(t672 == t675) || (!(t673 == t676) || (!(t674 == t677))))), q14_, H', ⟨q219_⟩, ⟨q220_⟩, ⟨q221_⟩, ⟨q179_⟩, ⟨q180_⟩, ⟨q30_⟩, ⟨q49_⟩, ⟨q11_⟩⟩
     ·rw [if_neg c35] at H
      have c35b0 : ((t666.length : Int) == (t669.length : Int)) = false := beq_eq_false_iff_ne.mpr c35
      have c35b1 : ((t666.length : Int) != (t669.length : Int)) = true := bne_iff_ne.mpr c35
      have c35b2 : (t666.length == t669.length) = false := by first | simpa using c35 | (simp at c35 ⊢; omega)
      have H' := Aside0.mk H
      clear H
      try go_wp2
      have n0_ := Aside0.mk (Kd.V_drew HO657.out)
      have n1_ := Aside0.mk (Kd.V_drew HO660.out)
      have n2_ := Aside0.mk (Kd.R_drew HO668.out)
      have n3_ := Aside0.mk (Kd.R_drew HO671.out)
      have n4_ := Aside0.mk (blk_drew BK651.out)
      have n5_ := Aside0.mk (blk_drew BK652.out)
      have n6_ := Aside0.mk (below_drew1 HB.out)
      clear HO657
      clear HO660
      clear HO668
      clear HO671
      clear BK651
      clear BK652
      clear HB
      have HO657 := n0_
      have HO660 := n1_
      have HO668 := n2_
      have HO671 := n3_
      have BK651 := n4_
      have BK652 := n5_
      have HB := n6_
      clear n0_ n1_ n2_ n3_ n4_ n5_ n6_
      obtain ⟨Ao44, co44, eo44⟩ := Kd.R_slice HO668.out
      (first | subst eo44 | (injection eo44 with f1_ f2_ f3_; have f4_ := f1_.symm; have f5_ := f3_.symm; clear f1_ f2_ f3_; subst f4_; subst f5_))
      obtain ⟨Ao45, co45, eo45⟩ := Kd.R_slice HO671.out
      (first | subst eo45 | (injection eo45 with f1_ f2_ f3_; have f4_ := f1_.symm; have f5_ := f3_.symm; clear f1_ f2_ f3_; subst f4_; subst f5_))
      refine start_ (n := 22) (S := fun w' => True) (ds := []) (bl_ 22 0) q8_ rfl rfl trivial (fun hHeld => ?_); refine with_tabW cambiumlaw06_NodeSeeks.tab10 cambiumlaw06_NodeSeeks.bits10 (fun HT_ HW_ => ?_)
      generalize w31.drew = w43 at HO657 HO660 HO668 HO671 BK651 BK652 HB hHeld ⊢
      refine pure_ (i := 0) (N := some 38) (v := ?_) (a' := ?_) (bl_ 22 1) rfl rfl (any_of HT_.out q8_) (fun _ _ _ h => h) (Or.inl ⟨by rfl, ?_⟩) ?_ ?_
      rotate_left
      ·intro w'
       go_simp
       with_reducible rfl
      rotate_left
      ·simp only [Act.put, List.setIfInBounds_toArray, List.set_cons_zero, List.set_cons_succ, i64_w, i32_w]
       rfl
      refine pure_ (i := 1) (N := some 39) (v := ?_) (a' := ?_) (bl_ 22 3) rfl rfl (any_of HT_.out q8_) (fun _ _ _ h => h) (Or.inl ⟨by rfl, ?_⟩) ?_ ?_
      rotate_left
      ·intro w'
       go_simp
       with_reducible rfl
      rotate_left
      ·simp only [Act.put, List.setIfInBounds_toArray, List.set_cons_zero, List.set_cons_succ, i64_w, i32_w]
       rfl
      refine pure_ (i := 2) (N := some 40) (v := ?_) (a' := ?_) (bl_ 22 7) rfl rfl (any_of HT_.out q8_) (fun _ _ _ h => h) (Or.inl ⟨by rfl, ?_⟩) ?_ ?_
      rotate_left
      ·intro w'
       go_simp
       with_reducible rfl
      rotate_left
      ·simp only [Act.put, List.setIfInBounds_toArray, List.set_cons_zero, List.set_cons_succ, i64_w, i32_w]
       rfl
      refine pure_ (i := 3) (N := some 41) (v := ?_) (a' := ?_) (bl_ 22 15) rfl rfl (any_of HT_.out q8_) (fun _ _ _ h => h) (Or.inl ⟨by rfl, ?_⟩) ?_ ?_
      rotate_left
      ·intro w'
       go_simp
       with_reducible rfl
      rotate_left
      ·simp only [Act.put, List.setIfInBounds_toArray, List.set_cons_zero, List.set_cons_succ, i64_w, i32_w]
       rfl
      refine pure_ (i := 4) (N := some 42) (v := ?_) (a' := ?_) (bl_ 22 31) rfl rfl (any_of HT_.out q8_) (fun _ _ _ h => h) (Or.inl ⟨by rfl, ?_⟩) ?_ ?_
      rotate_left
      ·intro w'
       go_simp
       with_reducible rfl
      rotate_left
      ·simp only [Act.put, List.setIfInBounds_toArray, List.set_cons_zero, List.set_cons_succ, i64_w, i32_w]
       rfl
      refine pure_ (i := 5) (N := some 43) (v := ?_) (a' := ?_) (bl_ 22 63) rfl rfl (any_of HT_.out q8_) (fun _ _ _ h => h) (Or.inl ⟨by rfl, ?_⟩) ?_ ?_
      rotate_left
      ·intro w'
       go_simp
       with_reducible rfl
      rotate_left
      ·simp only [Act.put, List.setIfInBounds_toArray, List.set_cons_zero, List.set_cons_succ, i64_w, i32_w]
       rfl
      refine pure_ (i := 6) (N := some 44) (v := ?_) (a' := ?_) (bl_ 22 127) rfl rfl (any_of HT_.out q8_) (fun _ _ _ h => h) (Or.inl ⟨by rfl, ?_⟩) ?_ ?_
      rotate_left
      ·intro w'
       go_simp
       with_reducible rfl
      rotate_left
      ·simp only [Act.put, List.setIfInBounds_toArray, List.set_cons_zero, List.set_cons_succ, i64_w, i32_w]
       rfl
      refine pure_ (i := 7) (N := some 45) (v := ?_) (a' := ?_) (bl_ 22 255) rfl rfl (any_of HT_.out q8_) (fun _ _ _ h => h) (Or.inl ⟨by rfl, ?_⟩) ?_ ?_
      rotate_left
      ·intro w'
       go_simp
       with_reducible rfl
      rotate_left
      ·simp only [Act.put, List.setIfInBounds_toArray, List.set_cons_zero, List.set_cons_succ, i64_w, i32_w]
       rfl
      refine pure_ (i := 8) (N := some 46) (v := ?_) (a' := ?_) (bl_ 22 511) rfl rfl (any_of HT_.out q8_) (fun _ _ _ h => h) (Or.inl ⟨by rfl, ?_⟩) ?_ ?_
      rotate_left
      ·intro w'
       go_simp
       with_reducible rfl
      rotate_left
      ·simp only [Act.put, List.setIfInBounds_toArray, List.set_cons_zero, List.set_cons_succ, i64_w, i32_w]
       rfl
      refine pure_ (i := 9) (N := some 47) (v := ?_) (a' := ?_) (bl_ 22 1023) rfl rfl (any_of HT_.out q8_) (fun _ _ _ h => h) (Or.inl ⟨by rfl, ?_⟩) ?_ ?_
      rotate_left
      ·intro w'
       go_simp
       with_reducible rfl
      rotate_left
      ·simp only [Act.put, List.setIfInBounds_toArray, List.set_cons_zero, List.set_cons_succ, i64_w, i32_w]
       rfl
      refine pure_ (i := 10) (N := some 48) (v := ?_) (a' := ?_) (bl_ 22 2047) rfl rfl (any_of HT_.out q8_) (fun _ _ _ h => h) (Or.inl ⟨by rfl, ?_⟩) ?_ ?_
      rotate_left
      ·intro w'
       go_simp
       with_reducible rfl
      rotate_left
      ·simp only [Act.put, List.setIfInBounds_toArray, List.set_cons_zero, List.set_cons_succ, i64_w, i32_w]
       rfl
      refine pure_ (i := 11) (N := some 49) (v := ?_) (a' := ?_) (bl_ 22 4095) rfl rfl (any_of HT_.out q8_) (fun _ _ _ h => h) (Or.inl ⟨by rfl, ?_⟩) ?_ ?_
      rotate_left
      ·intro w'
       go_simp
       with_reducible rfl
      rotate_left
      ·simp only [Act.put, List.setIfInBounds_toArray, List.set_cons_zero, List.set_cons_succ, i64_w, i32_w]
       rfl
      refine pure_ (i := 12) (N := some 50) (v := ?_) (a' := ?_) (bl_ 22 8191) rfl rfl (any_of HT_.out q8_) (fun _ _ _ h => h) (Or.inl ⟨by rfl, ?_⟩) ?_ ?_
      rotate_left
      ·intro w'
       go_simp
       with_reducible rfl
      rotate_left
      ·simp only [Act.put, List.setIfInBounds_toArray, List.set_cons_zero, List.set_cons_succ, i64_w, i32_w]
       rfl
      refine pure_ (i := 13) (N := some 51) (v := ?_) (a' := ?_) (bl_ 22 16383) rfl rfl (any_of HT_.out q8_) (fun _ _ _ h => h) (Or.inl ⟨by rfl, ?_⟩) ?_ ?_
      rotate_left
      ·intro w'
       go_simp
       with_reducible rfl
      rotate_left
      ·simp only [Act.put, List.setIfInBounds_toArray, List.set_cons_zero, List.set_cons_succ, i64_w, i32_w]
       rfl
      refine pure_ (i := 14) (N := some 52) (v := ?_) (a' := ?_) (bl_ 22 32767) rfl rfl (any_of HT_.out q8_) (fun _ _ _ h => h) (Or.inl ⟨by rfl, ?_⟩) ?_ ?_
      rotate_left
      ·intro w'
       go_simp
       with_reducible rfl
      rotate_left
      ·simp only [Act.put, List.setIfInBounds_toArray, List.set_cons_zero, List.set_cons_succ, i64_w, i32_w]
       rfl
      refine pure_ (i := 15) (N := some 53) (v := ?_) (a' := ?_) (bl_ 22 65535) rfl rfl (any_of HT_.out q8_) (fun _ _ _ h => h) (Or.inl ⟨by rfl, ?_⟩) ?_ ?_
      rotate_left
      ·intro w'
       go_simp
       with_reducible rfl
      rotate_left
      ·simp only [Act.put, List.setIfInBounds_toArray, List.set_cons_zero, List.set_cons_succ, i64_w, i32_w]
       rfl
      refine pure_ (i := 16) (N := some 54) (v := undef) (a' := ?_) (bl_ 22 131071) rfl rfl (any_of HT_.out q8_) (fun _ _ _ h => h) (Or.inr ⟨by rfl, rfl⟩) ?_ ?_
      rotate_left
      ·simp only [Act.put, List.setIfInBounds_toArray, List.set_cons_zero, List.set_cons_succ, i64_w, i32_w]
       rfl
      refine pure_ (i := 17) (N := some 55) (v := undef) (a' := ?_) (bl_ 22 262143) rfl rfl (any_of HT_.out q8_) (fun _ _ _ h => h) (Or.inr ⟨by rfl, rfl⟩) ?_ ?_
      rotate_left
      ·simp only [Act.put, List.setIfInBounds_toArray, List.set_cons_zero, List.set_cons_succ, i64_w, i32_w]
       rfl
      refine pure_ (i := 18) (N := some 56) (v := undef) (a' := ?_) (bl_ 22 524287) rfl rfl (any_of HT_.out q8_) (fun _ _ _ h => h) (Or.inr ⟨by rfl, rfl⟩) ?_ ?_
      rotate_left
      ·simp only [Act.put, List.setIfInBounds_toArray, List.set_cons_zero, List.set_cons_succ, i64_w, i32_w]
       rfl
      refine pure_ (i := 19) (N := some 57) (v := undef) (a' := ?_) (bl_ 22 1048575) rfl rfl (any_of HT_.out q8_) (fun _ _ _ h => h) (Or.inr ⟨by rfl, rfl⟩) ?_ ?_
      rotate_left
      ·simp only [Act.put, List.setIfInBounds_toArray, List.set_cons_zero, List.set_cons_succ, i64_w, i32_w]
       rfl
      refine pure_ (i := 20) (N := some 58) (v := undef) (a' := ?_) (bl_ 22 2097151) rfl rfl (any_of HT_.out q8_) (fun _ _ _ h => h) (Or.inr ⟨by rfl, rfl⟩) ?_ ?_
      rotate_left
      ·simp only [Act.put, List.setIfInBounds_toArray, List.set_cons_zero, List.set_cons_succ, i64_w, i32_w]
       rfl
      refine pure_ (i := 21) (N := some 59) (v := ?_) (a' := ?_) (bl_ 22 4194303) rfl rfl (any_of HT_.out q8_) (fun _ _ _ h => h) (Or.inl ⟨by rfl, ?_⟩) ?_ ?_
      rotate_left
      ·intro w'
       go_simp
       with_reducible rfl
      rotate_left
      ·simp only [Act.put, List.setIfInBounds_toArray, List.set_cons_zero, List.set_cons_succ, i64_w, i32_w]
       rfl
      refine done_ (done_of HT_.out q8_) ?_
      try go_wp2
      go_meet
      case rel => exact ⟨_, (true), q14_, H', ⟨q219_⟩, ⟨q220_⟩, ⟨q221_⟩, ⟨q179_⟩, ⟨q180_⟩, ⟨q30_⟩, ⟨q49_⟩, ⟨q11_⟩⟩
   ·rw [if_neg c32] at H
    have c32b0 : (t662 == t664) = false := beq_eq_false_iff_ne.mpr c32
    have c32b1 : (t662 != t664) = true := bne_iff_ne.mpr c32
    (first | rw [c32b0] | (simp only [i64_w, i32_w]; rw [c32b0]) | skip)
    have H' := Aside0.mk H
    clear H
    try go_wp2
    have n0_ := Aside0.mk (Kd.V_drew HO657.out)
    have n1_ := Aside0.mk (Kd.V_drew HO660.out)
    have n2_ := Aside0.mk (Kd.R_drew HO668.out)
    have n3_ := Aside0.mk (Kd.R_drew HO671.out)
    have n4_ := Aside0.mk (blk_drew BK651.out)
    have n5_ := Aside0.mk (blk_drew BK652.out)
    have n6_ := Aside0.mk (below_drew1 HB.out)
    clear HO657
    clear HO660
    clear HO668
    clear HO671
    clear BK651
    clear BK652
    clear HB
    have HO657 := n0_
    have HO660 := n1_
    have HO668 := n2_
    have HO671 := n3_
    have BK651 := n4_
    have BK652 := n5_
    have HB := n6_
    clear n0_ n1_ n2_ n3_ n4_ n5_ n6_
    refine start_ (n := 22) (S := fun w' => True) (ds := []) (bl_ 22 0) q8_ rfl rfl trivial (fun hHeld => ?_); refine with_tabW cambiumlaw06_NodeSeeks.tab10 cambiumlaw06_NodeSeeks.bits10 (fun HT_ HW_ => ?_)
    generalize w31.drew = w46 at HO657 HO660 HO668 HO671 BK651 BK652 HB hHeld ⊢
    refine pure_ (i := 0) (N := some 38) (v := ?_) (a' := ?_) (bl_ 22 1) rfl rfl (any_of HT_.out q8_) (fun _ _ _ h => h) (Or.inl ⟨by rfl, ?_⟩) ?_ ?_
    rotate_left
    ·intro w'
     go_simp
     with_reducible rfl
    rotate_left
    ·simp only [Act.put, List.setIfInBounds_toArray, List.set_cons_zero, List.set_cons_succ, i64_w, i32_w]
     rfl
    refine pure_ (i := 1) (N := some 39) (v := ?_) (a' := ?_) (bl_ 22 3) rfl rfl (any_of HT_.out q8_) (fun _ _ _ h => h) (Or.inl ⟨by rfl, ?_⟩) ?_ ?_
    rotate_left
    ·intro w'
     go_simp
     with_reducible rfl
    rotate_left
    ·simp only [Act.put, List.setIfInBounds_toArray, List.set_cons_zero, List.set_cons_succ, i64_w, i32_w]
     rfl
    refine pure_ (i := 2) (N := some 40) (v := ?_) (a' := ?_) (bl_ 22 7) rfl rfl (any_of HT_.out q8_) (fun _ _ _ h => h) (Or.inl ⟨by rfl, ?_⟩) ?_ ?_
    rotate_left
    ·intro w'
     go_simp
     with_reducible rfl
    rotate_left
    ·simp only [Act.put, List.setIfInBounds_toArray, List.set_cons_zero, List.set_cons_succ, i64_w, i32_w]
     rfl
    refine pure_ (i := 3) (N := some 41) (v := ?_) (a' := ?_) (bl_ 22 15) rfl rfl (any_of HT_.out q8_) (fun _ _ _ h => h) (Or.inl ⟨by rfl, ?_⟩) ?_ ?_
    rotate_left
    ·intro w'
     go_simp
     with_reducible rfl
    rotate_left
    ·simp only [Act.put, List.setIfInBounds_toArray, List.set_cons_zero, List.set_cons_succ, i64_w, i32_w]
     rfl
    refine pure_ (i := 4) (N := some 42) (v := undef) (a' := ?_) (bl_ 22 31) rfl rfl (any_of HT_.out q8_) (fun _ _ _ h => h) (Or.inr ⟨by rfl, rfl⟩) ?_ ?_
    rotate_left
    ·simp only [Act.put, List.setIfInBounds_toArray, List.set_cons_zero, List.set_cons_succ, i64_w, i32_w]
     rfl
    refine pure_ (i := 5) (N := some 43) (v := undef) (a' := ?_) (bl_ 22 63) rfl rfl (any_of HT_.out q8_) (fun _ _ _ h => h) (Or.inr ⟨by rfl, rfl⟩) ?_ ?_
    rotate_left
    ·simp only [Act.put, List.setIfInBounds_toArray, List.set_cons_zero, List.set_cons_succ, i64_w, i32_w]
     rfl
    refine pure_ (i := 6) (N := some 44) (v := undef) (a' := ?_) (bl_ 22 127) rfl rfl (any_of HT_.out q8_) (fun _ _ _ h => h) (Or.inr ⟨by rfl, rfl⟩) ?_ ?_
    rotate_left
    ·simp only [Act.put, List.setIfInBounds_toArray, List.set_cons_zero, List.set_cons_succ, i64_w, i32_w]
     rfl
    refine pure_ (i := 7) (N := some 45) (v := ?_) (a' := ?_) (bl_ 22 255) rfl rfl (any_of HT_.out q8_) (fun _ _ _ h => h) (Or.inl ⟨by rfl, ?_⟩) ?_ ?_
    rotate_left
    ·intro w'
     go_simp
     with_reducible rfl
    rotate_left
    ·simp only [Act.put, List.setIfInBounds_toArray, List.set_cons_zero, List.set_cons_succ, i64_w, i32_w]
     rfl
    refine pure_ (i := 8) (N := some 46) (v := ?_) (a' := ?_) (bl_ 22 511) rfl rfl (any_of HT_.out q8_) (fun _ _ _ h => h) (Or.inl ⟨by rfl, ?_⟩) ?_ ?_
    rotate_left
    ·intro w'
     go_simp
     with_reducible rfl
    rotate_left
    ·simp only [Act.put, List.setIfInBounds_toArray, List.set_cons_zero, List.set_cons_succ, i64_w, i32_w]
     rfl
    refine pure_ (i := 9) (N := some 47) (v := undef) (a' := ?_) (bl_ 22 1023) rfl rfl (any_of HT_.out q8_) (fun _ _ _ h => h) (Or.inr ⟨by rfl, rfl⟩) ?_ ?_
    rotate_left
    ·simp only [Act.put, List.setIfInBounds_toArray, List.set_cons_zero, List.set_cons_succ, i64_w, i32_w]
     rfl
    refine pure_ (i := 10) (N := some 48) (v := undef) (a' := ?_) (bl_ 22 2047) rfl rfl (any_of HT_.out q8_) (fun _ _ _ h => h) (Or.inr ⟨by rfl, rfl⟩) ?_ ?_
    rotate_left
    ·simp only [Act.put, List.setIfInBounds_toArray, List.set_cons_zero, List.set_cons_succ, i64_w, i32_w]
     rfl
    refine pure_ (i := 11) (N := some 49) (v := undef) (a' := ?_) (bl_ 22 4095) rfl rfl (any_of HT_.out q8_) (fun _ _ _ h => h) (Or.inr ⟨by rfl, rfl⟩) ?_ ?_
    rotate_left
    ·simp only [Act.put, List.setIfInBounds_toArray, List.set_cons_zero, List.set_cons_succ, i64_w, i32_w]
     rfl
    refine pure_ (i := 12) (N := some 50) (v := undef) (a' := ?_) (bl_ 22 8191) rfl rfl (any_of HT_.out q8_) (fun _ _ _ h => h) (Or.inr ⟨by rfl, rfl⟩) ?_ ?_
    rotate_left
    ·simp only [Act.put, List.setIfInBounds_toArray, List.set_cons_zero, List.set_cons_succ, i64_w, i32_w]
     rfl
    refine pure_ (i := 13) (N := some 51) (v := undef) (a' := ?_) (bl_ 22 16383) rfl rfl (any_of HT_.out q8_) (fun _ _ _ h => h) (Or.inr ⟨by rfl, rfl⟩) ?_ ?_
    rotate_left
    ·simp only [Act.put, List.setIfInBounds_toArray, List.set_cons_zero, List.set_cons_succ, i64_w, i32_w]
     rfl
    refine pure_ (i := 14) (N := some 52) (v := ?_) (a' := ?_) (bl_ 22 32767) rfl rfl (any_of HT_.out q8_) (fun _ _ _ h => h) (Or.inl ⟨by rfl, ?_⟩) ?_ ?_
    rotate_left
    ·intro w'
     go_simp
     with_reducible rfl
    rotate_left
    ·simp only [Act.put, List.setIfInBounds_toArray, List.set_cons_zero, List.set_cons_succ, i64_w, i32_w]
     rfl
    refine pure_ (i := 15) (N := some 53) (v := ?_) (a' := ?_) (bl_ 22 65535) rfl rfl (any_of HT_.out q8_) (fun _ _ _ h => h) (Or.inl ⟨by rfl, ?_⟩) ?_ ?_
    rotate_left
    ·intro w'
     go_simp
     with_reducible rfl
    rotate_left
    ·simp only [Act.put, List.setIfInBounds_toArray, List.set_cons_zero, List.set_cons_succ, i64_w, i32_w]
     rfl
    refine pure_ (i := 16) (N := some 54) (v := undef) (a' := ?_) (bl_ 22 131071) rfl rfl (any_of HT_.out q8_) (fun _ _ _ h => h) (Or.inr ⟨by rfl, rfl⟩) ?_ ?_
    rotate_left
    ·simp only [Act.put, List.setIfInBounds_toArray, List.set_cons_zero, List.set_cons_succ, i64_w, i32_w]
     rfl
    refine pure_ (i := 17) (N := some 55) (v := undef) (a' := ?_) (bl_ 22 262143) rfl rfl (any_of HT_.out q8_) (fun _ _ _ h => h) (Or.inr ⟨by rfl, rfl⟩) ?_ ?_
    rotate_left
    ·simp only [Act.put, List.setIfInBounds_toArray, List.set_cons_zero, List.set_cons_succ, i64_w, i32_w]
     rfl
    refine pure_ (i := 18) (N := some 56) (v := undef) (a' := ?_) (bl_ 22 524287) rfl rfl (any_of HT_.out q8_) (fun _ _ _ h => h) (Or.inr ⟨by rfl, rfl⟩) ?_ ?_
    rotate_left
    ·simp only [Act.put, List.setIfInBounds_toArray, List.set_cons_zero, List.set_cons_succ, i64_w, i32_w]
     rfl
    refine pure_ (i := 19) (N := some 57) (v := undef) (a' := ?_) (bl_ 22 1048575) rfl rfl (any_of HT_.out q8_) (fun _ _ _ h => h) (Or.inr ⟨by rfl, rfl⟩) ?_ ?_
    rotate_left
    ·simp only [Act.put, List.setIfInBounds_toArray, List.set_cons_zero, List.set_cons_succ, i64_w, i32_w]
     rfl
    refine pure_ (i := 20) (N := some 58) (v := undef) (a' := ?_) (bl_ 22 2097151) rfl rfl (any_of HT_.out q8_) (fun _ _ _ h => h) (Or.inr ⟨by rfl, rfl⟩) ?_ ?_
    rotate_left
    ·simp only [Act.put, List.setIfInBounds_toArray, List.set_cons_zero, List.set_cons_succ, i64_w, i32_w]
     rfl
    refine pure_ (i := 21) (N := some 59) (v := ?_) (a' := ?_) (bl_ 22 4194303) rfl rfl (any_of HT_.out q8_) (fun _ _ _ h => h) (Or.inl ⟨by rfl, ?_⟩) ?_ ?_
    rotate_left
    ·intro w'
     go_simp
     with_reducible rfl
    rotate_left
    ·simp only [Act.put, List.setIfInBounds_toArray, List.set_cons_zero, List.set_cons_succ, i64_w, i32_w]
     rfl
    refine done_ (done_of HT_.out q8_) ?_
    try go_wp2
    go_meet
    case rel => exact ⟨_, (true), q14_, H', ⟨q219_⟩, ⟨q220_⟩, ⟨q221_⟩, ⟨q179_⟩, ⟨q180_⟩, ⟨q30_⟩, ⟨q49_⟩, ⟨q11_⟩⟩
  case rest =>
   clear HC11
   try clear c1
   try clear c2
   try clear p2
   try clear c3
   try clear c18
   try clear c22
   try clear c32
   try clear c32b0
   try clear c32b1
   try clear c35
   try clear c35b0
   try clear c35b1
   try clear c35b2
   obtain ⟨kq, x59_10, rfl, HA, HJ10, HO_11, HO_12, HO_652001, HO_652002, BK651, BK652, HB⟩ := hcut
   cases kq with
   | zero => exact absurd (show none = some _ from HA.out) (by simp)
   | succ kj10 =>
    have H := HA.out
    clear HA
    simp only [cambiumlaw06_NodeSeeks.j0] at H
    by_cases c47 : x59_10 = true
    ·subst c47
     have H1 : (some false) = some r := by rw [if_pos rfl] at H; exact H
     clear H
     have H := H1
     clear H1
     exact absurd (Option.some.inj H) (by rw [hr_.out]; decide)
    ·replace c47 := Bool.eq_false_iff.mpr c47
     subst c47
     have H1 : (cambiumlaw06_NodeSeeks.l0 kj10 t653 t666 t669 0) = some r := by rw [if_neg (show ¬ (false = true) by decide)] at H; exact H
     clear H
     have H := H1
     clear H1
     have H' := Aside0.mk H
     clear H
     go_wp2
     go_loopg [13] kj10 (fun kq v13 w' => ∃ (x13_2 : Int), v13 = .int .i64 x13_2 ∧ Aside0 (cambiumlaw06_NodeSeeks.l0 kq t653 t666 t669 x13_2 = some r) ∧ Aside0 (kq ≤ kj10) ∧ Aside0 (Kd.R (Kd.int .i64) 3 w' w.heap.size (fun k_ => some k_ ≠ (v670 : Value).ownBlock) v667 t666) ∧ Aside0 (Kd.R (Kd.int .i64) 3 w' w.heap.size (fun k_ => some k_ ≠ (v667 : Value).ownBlock) v670 t669) ∧ Aside0 (Kd.V k52 52 w' w.heap.size (fun k_ => some k_ ≠ (v667 : Value).ownBlock ∧ some k_ ≠ (v670 : Value).ownBlock ∧ k_ ≠ gb651 ∧ k_ ≠ gb652) (.slice Ao19 t655.length co19) t655) ∧ Aside0 (Kd.V k57 57 w' w.heap.size (fun k_ => some k_ ≠ (v667 : Value).ownBlock ∧ some k_ ≠ (v670 : Value).ownBlock ∧ k_ ≠ gb651 ∧ k_ ≠ gb652) (.slice Ao20 t658.length co20) t658) ∧ Aside0 (w'.heap[gb651]? = some (.cells #[.int .i64 t654, (.slice Ao19 t655.length co19), (.slice Ao20 t658.length co20)] 25 (0, 0))) ∧ Aside0 (w'.heap[gb652]? = some (.cells #[.int .i64 a1_0, .int .i64 a1_1, .int .i64 a1_2] 35 (0, 0))) ∧ Aside0 (Below w.heap.size w w'))
     case atStart => exact ⟨(0), q14_, H', ⟨Nat.le_refl _⟩, ⟨by (with_reducible repeat (first | apply Kd.R_alloc | apply Kd.R_drewN | apply Kd.R_drew)); exact HO_11.out⟩, ⟨by (with_reducible repeat (first | apply Kd.R_alloc | apply Kd.R_drewN | apply Kd.R_drew)); exact HO_12.out⟩, ⟨by (with_reducible repeat (first | apply Kd.V_alloc | apply Kd.V_drewN | apply Kd.V_drew)); exact HO_652001.out⟩, ⟨by (with_reducible repeat (first | apply Kd.V_alloc | apply Kd.V_drewN | apply Kd.V_drew)); exact HO_652002.out⟩, ⟨q30_⟩, ⟨q49_⟩, ⟨q11_⟩⟩
     case round =>
      clear H'
      try clear c1
      try clear c2
      try clear p2
      try clear c3
      try clear c4
      try clear c18
      try clear c22
      try clear c32
      try clear c32b0
      try clear c32b1
      try clear c35
      try clear c35b0
      try clear c35b1
      try clear c35b2
      try clear c47
      try clear p2
      obtain ⟨x13_2, rfl, HA, HK2, HO_11, HO_12, HO_652001, HO_652002, BK651, BK652, HB⟩ := hrel
      cases gk with
      | zero => exact absurd (show none = some _ from HA.out) (by simp)
      | succ k2 =>
       have H := HA.out
       clear HA
       simp only [cambiumlaw06_NodeSeeks.l0] at H
       by_cases c48 : x13_2 < (t666.length : Int)
       ·rw [if_pos c48] at H
        have c48b0 : decide (x13_2 < (t666.length : Int)) = true := decide_eq_true c48
        clear c48
        by_cases c49 : 0 ≤ x13_2
        ·rw [if_pos c49] at H
         have c49b0 : decide (0 ≤ x13_2) = true := decide_eq_true c49
         clear c49
         by_cases c50 : x13_2 < (t669.length : Int)
         ·rw [if_pos c50] at H
          have c50b0 : decide (x13_2 < (t669.length : Int)) = true := decide_eq_true c50
          clear c50
          by_cases c51 : (rd t666 x13_2) = (rd t669 x13_2)
          ·rw [if_pos c51] at H
           have c51b0 : ((rd t666 x13_2) == (rd t669 x13_2)) = true := beq_iff_eq.mpr c51
           have c51b1 : ((rd t666 x13_2) != (rd t669 x13_2)) = false := bne_eq_false_iff_eq.mpr c51
           clear c51
           have H' := Aside0.mk H
           clear H
           obtain ⟨Ao52, co52, eo52⟩ := Kd.R_slice HO_11.out
           subst eo52
           try go_wp2
           have n0_ := Aside0.mk (Kd.R_drew HO_11.out)
           have n1_ := Aside0.mk (Kd.R_drew HO_12.out)
           have n2_ := Aside0.mk (Kd.V_drew HO_652001.out)
           have n3_ := Aside0.mk (Kd.V_drew HO_652002.out)
           have n4_ := Aside0.mk (blk_drew BK651.out)
           have n5_ := Aside0.mk (blk_drew BK652.out)
           have n6_ := Aside0.mk (below_drew1 HB.out)
           clear HO_11
           clear HO_12
           clear HO_652001
           clear HO_652002
           clear BK651
           clear BK652
           clear HB
           have HO_11 := n0_
           have HO_12 := n1_
           have HO_652001 := n2_
           have HO_652002 := n3_
           have BK651 := n4_
           have BK652 := n5_
           have HB := n6_
           clear n0_ n1_ n2_ n3_ n4_ n5_ n6_
           have p678 : 0 ≤ (x13_2 : Int) := of_decide_eq_true q4_
           have q678 : x13_2 < (t666.length : Int) := of_decide_eq_true q4_
           obtain ⟨ad678, e678, hx678_0⟩ := Kd.at_int (Kd.R_reads' HO_11.out).2.2 x13_2 p678 q678
           cases e678
           replace p678 := eq_true p678
           replace q678 := eq_true q678
           obtain ⟨Ao54, co54, eo54⟩ := Kd.R_slice HO_12.out
           (first | subst eo54 | (injection eo54 with f1_ f2_ f3_; have f4_ := f1_.symm; have f5_ := f3_.symm; clear f1_ f2_ f3_; subst f4_; subst f5_))
           have p679 : 0 ≤ (x13_2 : Int) := of_decide_eq_true q4_
           have q679 : x13_2 < (t669.length : Int) := of_decide_eq_true q4_
           obtain ⟨ad679, e679, hx679_0⟩ := Kd.at_int (Kd.R_reads' HO_12.out).2.2 x13_2 p679 q679
           cases e679
           replace p679 := eq_true p679
           replace q679 := eq_true q679
           refine start_ (n := 9) (S := fun w' => w'.cell? (ad678.add (x13_2).toNat) = some (.int .i64 (rd t666 x13_2)) ∧ w'.cell? (ad679.add (x13_2).toNat) = some (.int .i64 (rd t669 x13_2))) (ds := []) (bl_ 9 0) q8_ rfl rfl ⟨hx678_0, hx679_0⟩ (fun hHeld => ?_); refine with_tabW cambiumlaw06_NodeSeeks.tab15 cambiumlaw06_NodeSeeks.bits15 (fun HT_ HW_ => ?_)
           generalize wr.drew = w53 at HO_11 HO_12 HO_652001 HO_652002 BK651 BK652 HB hx678_0 hx679_0 hHeld ⊢
           refine pure_ (i := 0) (N := some 66) (v := ?_) (a' := ?_) (bl_ 9 1) rfl rfl (any_of HT_.out q8_) (fun _ _ _ h => h) (Or.inl ⟨by rfl, ?_⟩) ?_ ?_
           rotate_left
           ·intro w'
            go_simp
            with_reducible rfl
           rotate_left
           ·simp only [Act.put, List.setIfInBounds_toArray, List.set_cons_zero, List.set_cons_succ, i64_w, i32_w]
            rfl
           refine pure_ (i := 1) (N := some 67) (v := ?_) (a' := ?_) (bl_ 9 3) rfl rfl (any_of HT_.out q8_) (fun _ _ _ h => h) (Or.inl ⟨by rfl, ?_⟩) ?_ ?_
           rotate_left
           ·intro w'
            go_simp
            with_reducible rfl
           rotate_left
           ·simp only [Act.put, List.setIfInBounds_toArray, List.set_cons_zero, List.set_cons_succ, i64_w, i32_w]
            rfl
           refine pure_ (i := 2) (N := some 68) (v := ?_) (a' := ?_) (bl_ 9 7) rfl rfl (any_of HT_.out q8_) (fun _ _ _ h => h) (Or.inl ⟨by rfl, ?_⟩) ?_ ?_
           rotate_left
           ·intro w'
            go_simp
            with_reducible rfl
           rotate_left
           ·simp only [Act.put, List.setIfInBounds_toArray, List.set_cons_zero, List.set_cons_succ, i64_w, i32_w]
            rfl
           refine pure_ (i := 4) (N := some 70) (v := ?_) (a' := ?_) (bl_ 9 23) rfl rfl (any_of HT_.out q8_) (fun _ _ _ h => h) (Or.inl ⟨by rfl, ?_⟩) ?_ ?_
           rotate_left
           ·intro w'
            go_simp
            with_reducible rfl
           rotate_left
           ·simp only [Act.put, List.setIfInBounds_toArray, List.set_cons_zero, List.set_cons_succ, i64_w, i32_w]
            rfl
           refine pure_ (i := 5) (N := some 71) (v := ?_) (a' := ?_) (bl_ 9 55) rfl rfl (any_of HT_.out q8_) (fun _ _ _ h => h) (Or.inl ⟨by rfl, ?_⟩) ?_ ?_
           rotate_left
           ·intro w'
            go_simp
            with_reducible rfl
           rotate_left
           ·simp only [Act.put, List.setIfInBounds_toArray, List.set_cons_zero, List.set_cons_succ, i64_w, i32_w]
            rfl
           refine pure_ (i := 6) (N := some 72) (v := ?_) (a' := ?_) (bl_ 9 119) rfl rfl (any_of HT_.out q8_) (fun _ _ _ h => h) (Or.inl ⟨by rfl, ?_⟩) ?_ ?_
           rotate_left
           ·intro w'
            go_simp
            with_reducible rfl
           rotate_left
           ·simp only [Act.put, List.setIfInBounds_toArray, List.set_cons_zero, List.set_cons_succ, i64_w, i32_w]
            rfl
           refine take_ (i := 3) (N := some 69) (v := ?_) (a' := ?_) (bl_ 9 127) rfl rfl (take_ofW HT_.out HW_.out q8_) (fun _ _ _ h => h) (Or.inl ⟨by rfl, ?_⟩) hHeld ?_ ?_
           rotate_left
           ·rintro w' ⟨s0, s1⟩
            go_simp
            with_reducible rfl
           rotate_left
           ·simp only [Act.put, List.setIfInBounds_toArray, List.set_cons_zero, List.set_cons_succ, i64_w, i32_w]
            rfl
           refine take_ (i := 7) (N := some 73) (v := ?_) (a' := ?_) (bl_ 9 255) rfl rfl (take_ofW HT_.out HW_.out q8_) (fun _ _ _ h => h) (Or.inl ⟨by rfl, ?_⟩) hHeld ?_ ?_
           rotate_left
           ·rintro w' ⟨s0, s1⟩
            go_simp
            with_reducible rfl
           rotate_left
           ·simp only [Act.put, List.setIfInBounds_toArray, List.set_cons_zero, List.set_cons_succ, i64_w, i32_w]
            rfl
           refine pure_ (i := 8) (N := some 74) (v := ?_) (a' := ?_) (bl_ 9 511) rfl rfl (any_of HT_.out q8_) (fun _ _ _ h => h) (Or.inl ⟨by rfl, ?_⟩) ?_ ?_
           rotate_left
           ·intro w'
            go_simp
            with_reducible rfl
           rotate_left
           ·simp only [Act.put, List.setIfInBounds_toArray, List.set_cons_zero, List.set_cons_succ, i64_w, i32_w]
            rfl
           refine done_ (done_of HT_.out q8_) ?_
           try go_wp2
           go_roundg k2
           case measure => have := HJ10.out; have := HK2.out; omega
           case rel => exact ⟨(wrap64 (x13_2 + 1)), q14_, H', ⟨by have := HJ10.out; have := HK2.out; omega⟩, ⟨by (with_reducible repeat (first | apply Kd.R_alloc | apply Kd.R_drewN | apply Kd.R_drew)); exact HO_11.out⟩, ⟨by (with_reducible repeat (first | apply Kd.R_alloc | apply Kd.R_drewN | apply Kd.R_drew)); exact HO_12.out⟩, ⟨by (with_reducible repeat (first | apply Kd.V_alloc | apply Kd.V_drewN | apply Kd.V_drew)); exact HO_652001.out⟩, ⟨by (with_reducible repeat (first | apply Kd.V_alloc | apply Kd.V_drewN | apply Kd.V_drew)); exact HO_652002.out⟩, ⟨q30_⟩, ⟨q49_⟩, ⟨q11_⟩⟩
          ·rw [if_neg c51] at H
           have c51b0 : ((rd t666 x13_2) == (rd t669 x13_2)) = false := beq_eq_false_iff_ne.mpr c51
           have c51b1 : ((rd t666 x13_2) != (rd t669 x13_2)) = true := bne_iff_ne.mpr c51
           exact absurd (Option.some.inj H) (by rw [hr_.out]; decide)
         ·rw [if_neg c50] at H
          exact absurd H (by simp)
        ·rw [if_neg c49] at H
         exact absurd H (by simp)
       ·rw [if_neg c48] at H
        have c48b0 : decide (x13_2 < (t666.length : Int)) = false := decide_eq_false c48
        clear c48
        obtain rfl := Option.some.inj H
        obtain ⟨Ao55, co55, eo55⟩ := Kd.R_slice HO_11.out
        subst eo55
        go_wp2
        go_ret
        exact ⟨q6_, by repeat (first | (with_reducible first | exact HB.out | apply below_alloc | apply pw_below_drewN | apply below_drew1 | refine below_set ?_ GE651.out | refine below_set ?_ GE652.out) | exact HB.out)⟩
 ·replace c6 := Bool.eq_false_iff.mpr c6
  subst c6
  have H1 : (some t653) = some r := by rw [if_neg (show ¬ (false = true) by decide)] at H; exact H
  clear H
  have H := H1
  clear H1
  obtain rfl := Option.some.inj H
  go_enter Try.func6, Try.ntmps6
  go_wp2_with (first | ((with_reducible refine gate_dst (N := 2) rfl ?_); (try (refine gate_guard (by rfl) ?_; dsimp only)); refine box_event ?hg (N := 2) ?hd (cs := #[.int .i64 a0_0, .slice A0_1 l0_1.length c0_1, .slice A0_2 l0_2.length c0_2]) (t := 25) ?hr ?_; (case hd => rfl); (case hg => rfl); (case hr => first | (go_simp; done) | (go_simp; rfl)); intro gb651 hg w56 hbox hb; have n0_ := Aside0.mk (below_step q0_ hb); have n1_ := Aside0.mk (hbox); have n2_ := Aside0.mk ((by rw [hg]; exact (below_size q0_) : w.heap.size ≤ gb651)); have n3_ := Aside0.mk ((by rw [hg]; exact (below_size q0_) : w.heap.size ≤ gb651)); clear HB; have HB := n0_; have BK651 := n1_; have GW651 := n2_; have GE651 := n3_; clear n0_ n1_ n2_ n3_; clear hb hbox hg) | ((with_reducible refine gate_dst (N := 3) rfl ?_); (try (refine gate_guard (by rfl) ?_; dsimp only)); refine box_event ?hg (N := 3) ?hd (cs := #[.int .i64 a1_0, .int .i64 a1_1, .int .i64 a1_2]) (t := 35) ?hr ?_; (case hd => rfl); (case hg => rfl); (case hr => first | (go_simp; done) | (go_simp; rfl)); intro gb652 hg w57 hbox hb; have n0_ := Aside0.mk (blk_below (g := gb651) (o := .cells #[.int .i64 a0_0, .slice A0_1 l0_1.length c0_1, .slice A0_2 l0_2.length c0_2] 25 (0, 0)) q30_ hb); have n1_ := Aside0.mk (below_step q124_ hb); have n2_ := Aside0.mk (hbox); have n3_ := Aside0.mk ((by rw [hg]; exact (below_size q124_) : w.heap.size ≤ gb652)); have n4_ := Aside0.mk ((by rw [hg]; exact (below_size q124_) : w.heap.size ≤ gb652)); have n5_ := Aside0.mk ((by rw [hg]; exact Nat.ne_of_lt (blk_lt (g := gb651) (o := .cells #[.int .i64 a0_0, .slice A0_1 l0_1.length c0_1, .slice A0_2 l0_2.length c0_2] 25 (0, 0)) q30_) : gb651 ≠ gb652)); have n6_ := Aside0.mk ((by rw [hg]; exact Nat.ne_of_gt (blk_lt (g := gb651) (o := .cells #[.int .i64 a0_0, .slice A0_1 l0_1.length c0_1, .slice A0_2 l0_2.length c0_2] 25 (0, 0)) q30_) : gb652 ≠ gb651)); clear BK651; clear HB; have BK651 := n0_; have HB := n1_; have BK652 := n2_; have GW652 := n3_; have GE652 := n4_; have NB651_652 := n5_; have NB652_651 := n6_; clear n0_ n1_ n2_ n3_ n4_ n5_ n6_; clear hb hbox hg) | ((with_reducible refine gate_callee (f := 9) rfl ?_); refine goesL_ (some 14) rfl rfl Try.func9 q8_ rfl #[] rfl q1_ ?_; (with_reducible refine (cambiumlaw06_shown.calls  t653 _ A3.out).mono ?_); rintro e w58 ⟨rfl, hb⟩; refine ⟨_, rfl, ?_⟩; have n0_ := Aside0.mk (blk_below (g := gb651) (o := .cells #[.int .i64 a0_0, .slice A0_1 l0_1.length c0_1, .slice A0_2 l0_2.length c0_2] 25 (0, 0)) q30_ hb); have n1_ := Aside0.mk (blk_below (g := gb652) (o := .cells #[.int .i64 a1_0, .int .i64 a1_1, .int .i64 a1_2] 35 (0, 0)) q49_ hb); have n2_ := Aside0.mk (below_step q11_ hb); clear BK651; clear BK652; clear HB; have BK651 := n0_; have BK652 := n1_; have HB := n2_; clear n0_ n1_ n2_; (try clear hb); (try clear hb2); (try clear hk); (try clear hi); have hnb59 := NB651_652.out; have hnc59 := NB652_651.out; have hcz60_0 : w58.cell? ⟨gb651, 0, none⟩ = some (.int .i64 a0_0) := (blk_cell BK651.out 0).trans rfl; have hcz60_1 : w58.cell? ⟨gb651, 1, none⟩ = some (.slice A0_1 l0_1.length c0_1) := (blk_cell BK651.out 1).trans rfl; have hcz60_2 : w58.cell? ⟨gb651, 2, none⟩ = some (.slice A0_2 l0_2.length c0_2) := (blk_cell BK651.out 2).trans rfl; have hfz60_0 := blk_frozen BK651.out 0; have hfz60_1 := blk_frozen BK651.out 1; have hfz60_2 := blk_frozen BK651.out 2) | ((with_reducible refine gate_callee (f := 10) rfl ?_); refine goesL_ (some 16) rfl rfl Try.func10 q8_ rfl #[.agg #[.int .i64 a0_0, .slice A0_1 l0_1.length c0_1, .slice A0_2 l0_2.length c0_2]] rfl q1_ ?_; (with_reducible refine (cambiumlaw06_few.calls a0_0 (fun k_ => k_ < w.heap.size) _ _ l0_1 (fun k_ => k_ < w.heap.size) _ _ l0_2 t654 t655 t658 _ ?side1 ?side2 A4.out).mono ?_); (case side1 => exact Kd.V_mk HC0_1.out (Kd.F_below (Kd.C_F k52_heap HR0_1.out) q11_)); (case side2 => exact Kd.V_mk HC0_2.out (Kd.F_below (Kd.C_F k57_heap HR0_2.out) q11_)); rintro e w61 ⟨v656, v659, rfl, ho0, ho1, hb⟩; refine ⟨_, rfl, ?_⟩; have n0_ := Aside0.mk (Kd.V_lower (Kd.V_mono (ok' := fun k_ => k_ ≠ gb651 ∧ k_ ≠ gb652) ho0 (fun k_ hk_ => ⟨Or.elim hk_ (fun hs_ => Or.elim hs_ (fun hs_ => fun e_ => Nat.not_le.2 hs_ (by rw [e_]; exact GW651.out)) (fun hs_ => fun e_ => Nat.not_le.2 hs_ (by rw [e_]; exact GW651.out))) (fun hn_ => (Kd.freshB (g := gb651) (o := .cells #[.int .i64 a0_0, .slice A0_1 l0_1.length c0_1, .slice A0_2 l0_2.length c0_2] 25 (0, 0)) q30_ k_ hn_)), Or.elim hk_ (fun hs_ => Or.elim hs_ (fun hs_ => fun e_ => Nat.not_le.2 hs_ (by rw [e_]; exact GW652.out)) (fun hs_ => fun e_ => Nat.not_le.2 hs_ (by rw [e_]; exact GW652.out))) (fun hn_ => (Kd.freshB (g := gb652) (o := .cells #[.int .i64 a1_0, .int .i64 a1_1, .int .i64 a1_2] 35 (0, 0)) q49_ k_ hn_))⟩)) (below_size q11_)); have n1_ := Aside0.mk (Kd.V_lower (Kd.V_mono (ok' := fun k_ => k_ ≠ gb651 ∧ k_ ≠ gb652) ho1 (fun k_ hk_ => ⟨Or.elim hk_ (fun hs_ => Or.elim hs_ (fun hs_ => fun e_ => Nat.not_le.2 hs_ (by rw [e_]; exact GW651.out)) (fun hs_ => fun e_ => Nat.not_le.2 hs_ (by rw [e_]; exact GW651.out))) (fun hn_ => (Kd.freshB (g := gb651) (o := .cells #[.int .i64 a0_0, .slice A0_1 l0_1.length c0_1, .slice A0_2 l0_2.length c0_2] 25 (0, 0)) q30_ k_ hn_)), Or.elim hk_ (fun hs_ => Or.elim hs_ (fun hs_ => fun e_ => Nat.not_le.2 hs_ (by rw [e_]; exact GW652.out)) (fun hs_ => fun e_ => Nat.not_le.2 hs_ (by rw [e_]; exact GW652.out))) (fun hn_ => (Kd.freshB (g := gb652) (o := .cells #[.int .i64 a1_0, .int .i64 a1_1, .int .i64 a1_2] 35 (0, 0)) q49_ k_ hn_))⟩)) (below_size q11_)); have n2_ := Aside0.mk (blk_below (g := gb651) (o := .cells #[.int .i64 a0_0, .slice A0_1 l0_1.length c0_1, .slice A0_2 l0_2.length c0_2] 25 (0, 0)) q30_ hb); have n3_ := Aside0.mk (blk_below (g := gb652) (o := .cells #[.int .i64 a1_0, .int .i64 a1_1, .int .i64 a1_2] 35 (0, 0)) q49_ hb); have n4_ := Aside0.mk (below_step q11_ hb); clear BK651; clear BK652; clear HB; have HO657 := n0_; have HO660 := n1_; have BK651 := n2_; have BK652 := n3_; have HB := n4_; clear n0_ n1_ n2_ n3_ n4_; (try clear hb); (try clear hb2); (try clear hk); (try clear hi); (try clear ho0); (try clear ho1); have hcz62_0 : w61.cell? ⟨gb651, 0, none⟩ = some (.int .i64 a0_0) := (blk_cell BK651.out 0).trans rfl; have hcz62_1 : w61.cell? ⟨gb651, 1, none⟩ = some (.slice A0_1 l0_1.length c0_1) := (blk_cell BK651.out 1).trans rfl; have hcz62_2 : w61.cell? ⟨gb651, 2, none⟩ = some (.slice A0_2 l0_2.length c0_2) := (blk_cell BK651.out 2).trans rfl; have hfz62_0 := blk_frozen BK651.out 0; have hfz62_1 := blk_frozen BK651.out 1; have hfz62_2 := blk_frozen BK651.out 2; obtain ⟨Ao63, co63, eo63⟩ := Kd.V_slice HO657.out; subst eo63; obtain ⟨Ao64, co64, eo64⟩ := Kd.V_slice HO660.out; subst eo64) | ((with_reducible refine gate_callee (f := 12) rfl ?_); refine goesL_ (some 18) rfl rfl Try.func12 q8_ rfl #[.agg #[.int .i64 t654, .slice Ao63 t655.length co63, .slice Ao64 t658.length co64]] rfl q1_ ?_; (with_reducible refine (cambiumref06_May.calls k t654 _ _ t655 _ _ t658 false _ ?side1 ?side2 ?side3 ?side4 A5.out).mono ?_); (case side1 => refine (Kd.V_reads' (e := 52) (base := w.heap.size) (ok := fun k_ => (k_ ≠ gb651 ∧ k_ ≠ gb652)) (n := t655.length) (c := co63) ?_).2.2; exact q204_); (case side2 => exact (Kd.V_reads' HO657.out).2.1); (case side3 => refine (Kd.V_reads' (e := 57) (base := w.heap.size) (ok := fun k_ => (k_ ≠ gb651 ∧ k_ ≠ gb652)) (n := t658.length) (c := co64) ?_).2.2; exact q205_); (case side4 => exact (Kd.V_reads' HO660.out).2.1); rintro e w65 ⟨rfl, hb⟩; refine ⟨_, rfl, ?_⟩; have n0_ := Aside0.mk (Kd.V_below q204_ hb); have n1_ := Aside0.mk (Kd.V_below q205_ hb); have n2_ := Aside0.mk (blk_below (g := gb651) (o := .cells #[.int .i64 t654, .slice Ao63 t655.length co63, .slice Ao64 t658.length co64] 25 (0, 0)) (by (with_reducible repeat (first | refine blk_drewN ?_ _ | refine blk_drew ?_ | refine blk_alloc ?_ _)); refine blk_put (cs := #[.int .i64 t654, .slice Ao63 t655.length co63, .slice A0_2 l0_2.length c0_2]) ?_ 2 _ rfl; (with_reducible repeat (first | refine blk_drewN ?_ _ | refine blk_drew ?_ | refine blk_alloc ?_ _)); refine blk_put (cs := #[.int .i64 t654, .slice A0_1 l0_1.length c0_1, .slice A0_2 l0_2.length c0_2]) ?_ 1 _ rfl; (with_reducible repeat (first | refine blk_drewN ?_ _ | refine blk_drew ?_ | refine blk_alloc ?_ _)); refine blk_put (cs := #[.int .i64 a0_0, .slice A0_1 l0_1.length c0_1, .slice A0_2 l0_2.length c0_2]) ?_ 0 _ rfl; (with_reducible repeat (first | refine blk_drewN ?_ _ | refine blk_drew ?_ | refine blk_alloc ?_ _)); exact BK651.out) hb); have n3_ := Aside0.mk (blk_below (g := gb652) (o := .cells #[.int .i64 a1_0, .int .i64 a1_1, .int .i64 a1_2] 35 (0, 0)) q182_ hb); have n4_ := Aside0.mk (below_step q11_ hb); clear HO657; clear HO660; clear BK651; clear BK652; clear HB; have HO657 := n0_; have HO660 := n1_; have BK651 := n2_; have BK652 := n3_; have HB := n4_; clear n0_ n1_ n2_ n3_ n4_; (try clear hb); (try clear hb2); (try clear hk); (try clear hi)))
  go_ret
  exact ⟨q6_, by repeat (first | (with_reducible first | exact HB.out | apply below_alloc | apply pw_below_drewN | apply below_drew1 | refine below_set ?_ GE651.out | refine below_set ?_ GE652.out) | exact HB.out)⟩

/-- THE ONE PURE STATEMENT of cambiumlaw06_NodeSeeks: yours. -/
def cambiumlaw06_NodeSeeks.Pure : Prop := ∀ (a0_0 : Int) (l0_1 : List (S52)) (l0_2 : List (S57)) (a1_0 : Int) (a1_1 : Int) (a1_2 : Int), (Lit.int .i64 a0_0).wf = true → (l0_1.length ≤ maxLen ∧ ∀ y0_ ∈ l0_1, ((Lit.int .i64 y0_.f0.f0).wf = true ∧ (Lit.int .i64 y0_.f0.f1).wf = true ∧ (Lit.int .i64 y0_.f0.f2).wf = true ∧ (y0_.f1.length ≤ maxLen ∧ ∀ y1_ ∈ y0_.f1, (Lit.int .u8 y1_).wf = true))) → (l0_2.length ≤ maxLen ∧ ∀ y0_ ∈ l0_2, ((Lit.int .i64 y0_.f0.f0).wf = true ∧ (Lit.int .i64 y0_.f0.f1).wf = true ∧ (Lit.int .i64 y0_.f0.f2).wf = true ∧ (Lit.int .i64 y0_.f1).wf = true)) → (Lit.int .i64 a1_0).wf = true → (Lit.int .i64 a1_1).wf = true → (Lit.int .i64 a1_2).wf = true → ∃ k, cambiumlaw06_NodeSeeks.f k a0_0 l0_1 l0_2 a1_0 a1_1 a1_2 = some true
theorem cambiumlaw06_NodeSeeks.walk (P : cambiumlaw06_NodeSeeks.Pure) (a0_0 : Int) (A0_1 : Option Addr) (c0_1 : Nat) (l0_1 : List (S52)) (A0_2 : Option Addr) (c0_2 : Nat) (l0_2 : List (S57)) (a1_0 : Int) (a1_1 : Int) (a1_2 : Int) (w : World) (w0_0 : (Lit.int .i64 a0_0).wf = true) (hr0_1 : Kd.C k52 w A0_1 l0_1.length l0_1) (hc0_1 : l0_1.length ≤ c0_1) (w0_1 : (l0_1.length ≤ maxLen ∧ ∀ y0_ ∈ l0_1, ((Lit.int .i64 y0_.f0.f0).wf = true ∧ (Lit.int .i64 y0_.f0.f1).wf = true ∧ (Lit.int .i64 y0_.f0.f2).wf = true ∧ (y0_.f1.length ≤ maxLen ∧ ∀ y1_ ∈ y0_.f1, (Lit.int .u8 y1_).wf = true)))) (hr0_2 : Kd.C k57 w A0_2 l0_2.length l0_2) (hc0_2 : l0_2.length ≤ c0_2) (w0_2 : (l0_2.length ≤ maxLen ∧ ∀ y0_ ∈ l0_2, ((Lit.int .i64 y0_.f0.f0).wf = true ∧ (Lit.int .i64 y0_.f0.f1).wf = true ∧ (Lit.int .i64 y0_.f0.f2).wf = true ∧ (Lit.int .i64 y0_.f1).wf = true))) (w1_0 : (Lit.int .i64 a1_0).wf = true) (w1_1 : (Lit.int .i64 a1_1).wf = true) (w1_2 : (Lit.int .i64 a1_2).wf = true) :
  Calls Try.prog 6 #[.agg #[.int .i64 a0_0, .slice A0_1 l0_1.length c0_1, .slice A0_2 l0_2.length c0_2], .agg #[.int .i64 a1_0, .int .i64 a1_1, .int .i64 a1_2]] w fun e w' => e = .returned (.bool true) ∧ Below w.heap.size w w' := by
 obtain ⟨k, h⟩ := P a0_0 l0_1 l0_2 a1_0 a1_1 a1_2 w0_0 w0_1 w0_2 w1_0 w1_1 w1_2
 refine (cambiumlaw06_NodeSeeks.calls k a0_0 A0_1 c0_1 l0_1 A0_2 c0_2 l0_2 a1_0 a1_1 a1_2 true w hr0_1 hc0_1 hr0_2 hc0_2 ⟨rfl⟩ h).mono ?_
 rintro e w' ⟨rfl, hd⟩
 exact ⟨rfl, hd⟩

end Go.Proofs.Ytcjnknpbikfimaa.P
