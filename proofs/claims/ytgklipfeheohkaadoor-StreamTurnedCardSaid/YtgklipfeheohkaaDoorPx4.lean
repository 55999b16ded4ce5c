/- Functions and contracts, written by a program (mkprint.py, a wrapper of ours around the print); texts between GIVEN marks are ours. -/
import Derived.Test.YtgklipfeheohkaaDoorPx0
namespace Go.Proofs.YtgklipfeheohkaaDoor.P
open Go.RowKit Go.Proofs.YtgklipfeheohkaaDoorW.PrintWords Go.Proofs.YtgklipfeheohkaaDoorW.PrintLast Go.Proofs.YtgklipfeheohkaaDoorW.PrintMore
attribute [local go_sem] max2_int min2_int max_two min_two max_three min_three max_four min_four   -- for this text's walks alone
set_option linter.unusedVariables false
set_option linter.unusedSimpArgs false
theorem q30_ {P : Prop} (h : P := by repeat (first | (with_reducible first | exact HB.out | apply below_alloc | apply pw_below_drewN | apply below_drew1 | refine below_set ?_ GE233.out) | exact HB.out)) : P := h
theorem q33_ {P : Prop} (h : P := by rw [hw]; exact (by (with_reducible repeat (first | refine blk_drewN ?_ _ | refine blk_drew ?_ | refine blk_alloc ?_ _)); refine blk_put (cs := #[.int .i64 ((rd_T37 l0 x4_1).f0), .string ((rd_T37 l0 x4_1).f1), .string ((rd_T37 l0 x4_1).f2), .int .i64 ((rd_T37 l0 x4_1).f3), .slice none 0 0]) ?_ 4 _ rfl; (with_reducible repeat (first | refine blk_drewN ?_ _ | refine blk_drew ?_ | refine blk_alloc ?_ _)); refine blk_put (cs := #[.int .i64 ((rd_T37 l0 x4_1).f0), .string ((rd_T37 l0 x4_1).f1), .string ((rd_T37 l0 x4_1).f2), .int .i64 0, .slice none 0 0]) ?_ 3 _ rfl; (with_reducible repeat (first | refine blk_drewN ?_ _ | refine blk_drew ?_ | refine blk_alloc ?_ _)); refine blk_put (cs := #[.int .i64 ((rd_T37 l0 x4_1).f0), .string ((rd_T37 l0 x4_1).f1), .string (⟨#[]⟩ : ByteArray), .int .i64 0, .slice none 0 0]) ?_ 2 _ rfl; (with_reducible repeat (first | refine blk_drewN ?_ _ | refine blk_drew ?_ | refine blk_alloc ?_ _)); refine blk_put (cs := #[.int .i64 ((rd_T37 l0 x4_1).f0), .string (⟨#[]⟩ : ByteArray), .string (⟨#[]⟩ : ByteArray), .int .i64 0, .slice none 0 0]) ?_ 1 _ rfl; (with_reducible repeat (first | refine blk_drewN ?_ _ | refine blk_drew ?_ | refine blk_alloc ?_ _)); refine blk_put (cs := #[.int .i64 0, .string (⟨#[]⟩ : ByteArray), .string (⟨#[]⟩ : ByteArray), .int .i64 0, .slice none 0 0]) ?_ 0 _ rfl; (with_reducible repeat (first | refine blk_drewN ?_ _ | refine blk_drew ?_ | refine blk_alloc ?_ _)); exact BK233.out)) : P := h
theorem q53_ {P : Prop} (h : P := by rw [hw]; exact (by (with_reducible repeat (first | apply Kd.V_alloc | apply Kd.V_drewN | apply Kd.V_drew)); exact Kd.V_mono (Kd.V_far (p := ⟨gb233, 4, none⟩) (Kd.V_far (p := ⟨gb233, 3, none⟩) (Kd.V_far (p := ⟨gb233, 2, none⟩) (Kd.V_far (p := ⟨gb233, 1, none⟩) (Kd.V_far (p := ⟨gb233, 0, none⟩) (Kd.V_mono HL232_4.out (fun k_ hk => (⟨hk, hk.2⟩ : _ ∧ k_ ≠ gb233))) (fun _ hk => hk.2) (.int .i64 ((rd_T37 l0 x4_1).f0))) (fun _ hk => hk.2) (.string ((rd_T37 l0 x4_1).f1))) (fun _ hk => hk.2) (.string ((rd_T37 l0 x4_1).f2))) (fun _ hk => hk.2) (.int .i64 ((rd_T37 l0 x4_1).f3))) (fun _ hk => hk.2) (.slice A232_4 ((rd_T37 l0 x4_1).f4).length c232_4)) (fun _ hk => ⟨hk.1.1.1, ⟨hk.1.1.2, hk.1.2⟩⟩))) : P := h
theorem q55_ {P : Prop} (h : P := by rw [hw]; exact (by (with_reducible repeat (first | apply Kd.V_alloc | apply Kd.V_drewN | apply Kd.V_drew)); exact Kd.V_mono (Kd.V_far (p := ⟨gb233, 4, none⟩) (Kd.V_far (p := ⟨gb233, 3, none⟩) (Kd.V_far (p := ⟨gb233, 2, none⟩) (Kd.V_far (p := ⟨gb233, 1, none⟩) (Kd.V_far (p := ⟨gb233, 0, none⟩) (Kd.V_mono HO_0.out (fun k_ hk => (⟨hk, hk.2⟩ : _ ∧ k_ ≠ gb233))) (fun _ hk => hk.2) (.int .i64 ((rd_T37 l0 x4_1).f0))) (fun _ hk => hk.2) (.string ((rd_T37 l0 x4_1).f1))) (fun _ hk => hk.2) (.string ((rd_T37 l0 x4_1).f2))) (fun _ hk => hk.2) (.int .i64 ((rd_T37 l0 x4_1).f3))) (fun _ hk => hk.2) (.slice A232_4 ((rd_T37 l0 x4_1).f4).length c232_4)) (fun _ hk => ⟨hk.1.1.1, ⟨hk.1.1.2, hk.1.2⟩⟩))) : P := h
theorem q58_ {P : Prop} (h : P := by rw [hw]; exact (by (with_reducible repeat (first | apply Kd.N_alloc | apply Kd.N_drewN | apply Kd.N_drew)); exact Kd.N_mono (Kd.N_far (p := ⟨gb233, 4, none⟩) (Kd.N_far (p := ⟨gb233, 3, none⟩) (Kd.N_far (p := ⟨gb233, 2, none⟩) (Kd.N_far (p := ⟨gb233, 1, none⟩) (Kd.N_far (p := ⟨gb233, 0, none⟩) (Kd.N_mono HO_3.out (fun k_ hk => (⟨hk, hk.2⟩ : _ ∧ k_ ≠ gb233))) (fun _ hk => hk.2) (.int .i64 ((rd_T37 l0 x4_1).f0))) (fun _ hk => hk.2) (.string ((rd_T37 l0 x4_1).f1))) (fun _ hk => hk.2) (.string ((rd_T37 l0 x4_1).f2))) (fun _ hk => hk.2) (.int .i64 ((rd_T37 l0 x4_1).f3))) (fun _ hk => hk.2) (.slice A232_4 ((rd_T37 l0 x4_1).f4).length c232_4)) (fun _ hk => ⟨hk.1.1, hk.1.2⟩))) : P := h
theorem q70_ {P : Prop} (h : P := by (with_reducible repeat (first | apply Kd.N_alloc | apply Kd.N_drewN | apply Kd.N_drew)); exact HO_3.out) : P := h

/-! ### cambiumlaw19_few: function 16 -/
mutual
def cambiumlaw19_few.l0 : Nat → List (S37) → List (S37) → Int → Option ((List (S37)))
 | 0, _, _, _ => none
 | k + 1, x0, x3, x4 => if x4 < (x0.length : Int) then (cambiumlaw19_few.j1 k x0 x3 x4 (decide (x4 < 40))) else (cambiumlaw19_few.j1 k x0 x3 x4 false)
def cambiumlaw19_few.j1 : Nat → List (S37) → List (S37) → Int → Bool → Option ((List (S37)))
 | 0, _, _, _, _ => none
 | k + 1, x0, x3, x4, x14 => if x14 = true then (if 0 ≤ x4 then (if x4 < (x0.length : Int) then (if (((rd_T37 x0 x4).f4).length : Int) > 300 then (if 300 ≤ (((rd_T37 x0 x4).f4).length : Int) then (if x3.length < 1954687338268 then (cambiumlaw19_few.l0 k x0 (x3 ++ [(⟨(rd_T37 x0 x4).f0, (rd_T37 x0 x4).f1, (rd_T37 x0 x4).f2, (rd_T37 x0 x4).f3, (((rd_T37 x0 x4).f4).take 300)⟩ : S37)]) (wrap64 (x4 + 1))) else (none)) else (none)) else (if x3.length < 1954687338268 then (cambiumlaw19_few.l0 k x0 (x3 ++ [(⟨(rd_T37 x0 x4).f0, (rd_T37 x0 x4).f1, (rd_T37 x0 x4).f2, (rd_T37 x0 x4).f3, (rd_T37 x0 x4).f4⟩ : S37)]) (wrap64 (x4 + 1))) else (none))) else (none)) else (none)) else (some x3)
end
def cambiumlaw19_few.f (k : Nat) (l0 : List (S37)) : Option ((List (S37))) := cambiumlaw19_few.l0 k l0 (([] : List (S37))) 0
theorem cambiumlaw19_few.mono_l : ∀ k, (∀ y0 y1 y2, LeO (cambiumlaw19_few.l0 k y0 y1 y2) (cambiumlaw19_few.l0 (k + 1) y0 y1 y2)) ∧ (∀ y0 y1 y2 y3, LeO (cambiumlaw19_few.j1 k y0 y1 y2 y3) (cambiumlaw19_few.j1 (k + 1) y0 y1 y2 y3))
 | 0 => ⟨fun _ _ _ r h => by simp [cambiumlaw19_few.l0] at h, fun _ _ _ _ r h => by simp [cambiumlaw19_few.j1] at h⟩
 | k + 1 => by
  obtain ⟨ih0, ih1⟩ := cambiumlaw19_few.mono_l k
  refine ⟨?_, ?_⟩
  ·intro y0 y1 y2
   unfold cambiumlaw19_few.l0
   repeat' first
   | (with_reducible exact ih0 _ _ _)
   | (with_reducible exact ih1 _ _ _ _)
   | (with_reducible exact LeO.refl _)
   | (with_reducible exact LeO.none _)
   | (with_reducible refine LeO.ite ?_ ?_)
   | (with_reducible refine LeO.bind ?_ (fun _ => ?_))
   | exact ih0 _ _ _
   | exact ih1 _ _ _ _
   | exact LeO.none _
   | refine LeO.ite ?_ ?_
   | refine LeO.bind ?_ (fun _ => ?_)
  ·intro y0 y1 y2 y3
   unfold cambiumlaw19_few.j1
   repeat' first
   | (with_reducible exact ih0 _ _ _)
   | (with_reducible exact ih1 _ _ _ _)
   | (with_reducible exact LeO.refl _)
   | (with_reducible exact LeO.none _)
   | (with_reducible refine LeO.ite ?_ ?_)
   | (with_reducible refine LeO.bind ?_ (fun _ => ?_))
   | exact ih0 _ _ _
   | exact ih1 _ _ _ _
   | exact LeO.none _
   | refine LeO.ite ?_ ?_
   | refine LeO.bind ?_ (fun _ => ?_)
theorem cambiumlaw19_few.mono : ∀ a0 k, LeO (cambiumlaw19_few.f k a0) (cambiumlaw19_few.f (k + 1) a0) := by
 intro a0 k
 obtain ⟨ih0, ih1⟩ := cambiumlaw19_few.mono_l k
 unfold cambiumlaw19_few.f
 repeat' first
   | (with_reducible exact ih0 _ _ _)
   | (with_reducible exact ih1 _ _ _ _)
   | (with_reducible exact LeO.refl _)
   | (with_reducible exact LeO.none _)
   | (with_reducible refine LeO.ite ?_ ?_)
   | (with_reducible refine LeO.bind ?_ (fun _ => ?_))
   | exact ih0 _ _ _
   | exact ih1 _ _ _ _
   | exact LeO.none _
   | refine LeO.ite ?_ ?_
   | refine LeO.bind ?_ (fun _ => ?_)
set_option maxHeartbeats 8000000 in
set_option maxRecDepth 100000 in
theorem cambiumlaw19_few.calls (k : Nat) (P0_ : Nat → Prop) (A0 : Option Addr) (c0 : Nat) (l0 : List (S37)) (r : List (S37)) (w : World) (hs0 : Kd.V k37 37 w w.heap.size (fun k_ => P0_ k_) (.slice A0 l0.length c0) l0) (h : cambiumlaw19_few.f k l0 = some r) :
  Calls Tryd.prog 16 #[.slice A0 l0.length c0] w fun e w' => ∃ v0_ : Value, e = .returned (v0_) ∧ Kd.N k37 37 w' w.heap.size (fun k_ => (P0_ k_ ∨ w.heap.size ≤ k_)) v0_ r ∧ Below w.heap.size w w' := by
 have hu37 := Tryd.underlying37
 have HO0 := Aside0.mk (show Kd.V k37 37 w w.heap.size (fun k_ => (P0_ k_ ∨ w.heap.size ≤ k_)) (.slice A0 l0.length c0) l0 from Kd.V_mono hs0 (fun k_ hk => .inl hk))
 have HB := Aside0.mk (Below.refl w.heap.size w)
 have H : (cambiumlaw19_few.l0 k l0 (([] : List (S37))) 0) = some r := h
 clear h
 obtain ⟨y229, hy229⟩ : ∃ y_ : List (S37), y_ = (([] : List (S37))) := ⟨_, rfl⟩
 replace H : (cambiumlaw19_few.l0 k l0 y229 0) = some r := by first | (rw [hy229]; with_reducible exact H) | (have H2_ := (Option.bind_some _ _).symm.trans H; rw [hy229]; with_reducible exact H2_) | (have H2_ := (Option.bind_some _ _).symm.trans H; with_reducible exact H2_) | with_reducible exact H | (rw [hy229]; exact H) | exact H
 have Ny229 := Aside0.mk hy229
 clear hy229
 have H' := Aside0.mk H
 clear H
 go_enter Tryd.func16, Tryd.ntmps16
 go_wp2_with (first | ((with_reducible refine gate_dst (N := 6) rfl ?_); refine Kd.N_lit k37 _ 37 ?hg (N' := 6) ?hd (xs := ([] : List (S37))) (inner := []) (ok := (fun k_ => (P0_ k_ ∨ w.heap.size ≤ k_))) (okp := (fun k_ => (P0_ k_ ∨ w.heap.size ≤ k_))) ?hr ?hp (fun _ hk => hk) ((show ∀ k_, w.heap.size ≤ k_ → (fun k_ => (P0_ k_ ∨ w.heap.size ≤ k_)) k_ from fun k_ hk => (.inr (Nat.le_trans (below_size q0_) hk))) _ (Nat.le_refl _)) (Below.refl _ _) (Nat.le_refl _) (by simp) ?_; (case hd => rfl); (case hg => rfl); (case hr => first | (go_simp; done) | (go_simp; rfl)); (case hp => exact (Reps.none _ _)); intro v230 w2 ho3 hb hg_ hnew_; clear hg_ hnew_; (first | rw [← Ny229.out] at ho3 | (simp only [Int.reduceToNat] at ho3; rw [← Ny229.out] at ho3)); have n0_ := Aside0.mk (Kd.V_elder' (by (with_reducible repeat (first | apply Kd.V_alloc | apply Kd.V_drewN | apply Kd.V_drew)); exact HO0.out) (Kd.N_base ho3) hb); have n1_ := Aside0.mk (Kd.N_lower ho3 (below_size q0_)); have n2_ := Aside0.mk (below_step q0_ hb); clear HO0; clear HB; have HO0 := n0_; have HO231 := n1_; have HB := n2_; clear n0_ n1_ n2_; clear hb ho3))
 go_loopg [3, 4] k (fun kq v3 v4 w' => ∃ (x3_1 : List (S37)) (x4_1 : Int), v4 = .int .i64 x4_1 ∧ Aside0 (cambiumlaw19_few.l0 kq l0 x3_1 x4_1 = some r) ∧ Aside0 (kq ≤ k) ∧ Aside0 (Kd.V k37 37 w' w.heap.size (fun k_ => (P0_ k_ ∨ w.heap.size ≤ k_) ∧ some k_ ≠ (v3 : Value).ownBlock) (.slice A0 l0.length c0) l0) ∧ Aside0 (Kd.N k37 37 w' w.heap.size (fun k_ => (P0_ k_ ∨ w.heap.size ≤ k_)) v3 x3_1) ∧ Aside0 (Below w.heap.size w w'))
 case atStart => exact ⟨(y229), (0), q3_, H', ⟨Nat.le_refl _⟩, ⟨by (with_reducible repeat (first | apply Kd.V_alloc | apply Kd.V_drewN | apply Kd.V_drew)); exact HO0.out⟩, ⟨by (with_reducible repeat (first | apply Kd.N_alloc | apply Kd.N_drewN | apply Kd.N_drew)); exact HO231.out⟩, ⟨q0_⟩⟩
 case round =>
  clear H'
  try clear c1
  try clear p2
  obtain ⟨x3_1, x4_1, rfl, HA, HK1, HO_0, HO_3, HB⟩ := hrel
  cases gk with
  | zero => exact absurd (show none = some _ from HA.out) (by simp)
  | succ k1 =>
   have H := HA.out
   clear HA
   simp only [cambiumlaw19_few.l0] at H
   have HC4 := Aside0.mk H
   clear H
   go_upto_region 3 with (fail)
   go_cut [14] (fun v14 wc => ∃ (kq : Nat) (x14_3 : Bool), v14 = .bool x14_3 ∧ Aside0 (cambiumlaw19_few.j1 kq l0 x3_1 x4_1 x14_3 = some r) ∧ Aside0 (kq ≤ k1) ∧ Aside0 (Kd.V k37 37 wc w.heap.size (fun k_ => (P0_ k_ ∨ w.heap.size ≤ k_) ∧ some k_ ≠ (u3 : Value).ownBlock) (.slice A0 l0.length c0) l0) ∧ Aside0 (Kd.N k37 37 wc w.heap.size (fun k_ => (P0_ k_ ∨ w.heap.size ≤ k_)) u3 x3_1) ∧ Aside0 (Below w.heap.size w wc))
   case first =>
    have H := HC4.out
    clear HC4
    by_cases c5 : x4_1 < (l0.length : Int)
    ·rw [if_pos c5] at H
     have c5b0 : decide (x4_1 < (l0.length : Int)) = true := decide_eq_true c5
     clear c5
     (first | rw [c5b0] | (simp only [i64_w, i32_w]; rw [c5b0]) | skip)
     have H' := Aside0.mk H
     clear H
     go_wp2
     go_meet
     case rel => exact ⟨_, (decide (x4_1 < 40)), q3_, H', ⟨by have := HK1.out; first | omega | exact Nat.le_refl _⟩, ⟨q14_⟩, ⟨q70_⟩, ⟨q0_⟩⟩
    ·rw [if_neg c5] at H
     have c5b0 : decide (x4_1 < (l0.length : Int)) = false := decide_eq_false c5
     clear c5
     (first | rw [c5b0] | (simp only [i64_w, i32_w]; rw [c5b0]) | skip)
     have H' := Aside0.mk H
     clear H
     go_wp2
     go_meet
     case rel => exact ⟨_, (false), q3_, H', ⟨by have := HK1.out; first | omega | exact Nat.le_refl _⟩, ⟨q14_⟩, ⟨q70_⟩, ⟨q0_⟩⟩
   case rest =>
    clear HC4
    try clear c1
    try clear p2
    try clear c5
    try clear c5b0
    try clear p2
    obtain ⟨kq, x14_3, rfl, HA, HJ3, HO_0, HO_3, HB⟩ := hcut
    cases kq with
    | zero => exact absurd (show none = some _ from HA.out) (by simp)
    | succ kj3 =>
     have H := HA.out
     clear HA
     simp only [cambiumlaw19_few.j1] at H
     by_cases c6 : x14_3 = true
     ·subst c6
      have H1 : (if 0 ≤ x4_1 then (if x4_1 < (l0.length : Int) then (if (((rd_T37 l0 x4_1).f4).length : Int) > 300 then (if 300 ≤ (((rd_T37 l0 x4_1).f4).length : Int) then (if x3_1.length < 1954687338268 then (cambiumlaw19_few.l0 kj3 l0 (x3_1 ++ [(⟨(rd_T37 l0 x4_1).f0, (rd_T37 l0 x4_1).f1, (rd_T37 l0 x4_1).f2, (rd_T37 l0 x4_1).f3, (((rd_T37 l0 x4_1).f4).take 300)⟩ : S37)]) (wrap64 (x4_1 + 1))) else (none)) else (none)) else (if x3_1.length < 1954687338268 then (cambiumlaw19_few.l0 kj3 l0 (x3_1 ++ [(⟨(rd_T37 l0 x4_1).f0, (rd_T37 l0 x4_1).f1, (rd_T37 l0 x4_1).f2, (rd_T37 l0 x4_1).f3, (rd_T37 l0 x4_1).f4⟩ : S37)]) (wrap64 (x4_1 + 1))) else (none))) else (none)) else (none)) = some r := by rw [if_pos rfl] at H; exact H
      clear H
      have H := H1
      clear H1
      by_cases c7 : 0 ≤ x4_1
      ·rw [if_pos c7] at H
       have c7b0 : decide (0 ≤ x4_1) = true := decide_eq_true c7
       clear c7
       by_cases c8 : x4_1 < (l0.length : Int)
       ·rw [if_pos c8] at H
        have c8b0 : decide (x4_1 < (l0.length : Int)) = true := decide_eq_true c8
        clear c8
        by_cases c9 : (((rd_T37 l0 x4_1).f4).length : Int) > 300
        ·rw [if_pos c9] at H
         have c9b0 : decide (300 < (((rd_T37 l0 x4_1).f4).length : Int)) = true := decide_eq_true c9
         have c9b1 : decide (300 < ((rd_T37 l0 x4_1).f4).length) = true := decide_eq_true (by omega)
         clear c9
         by_cases c10 : 300 ≤ (((rd_T37 l0 x4_1).f4).length : Int)
         ·rw [if_pos c10] at H
          have c10b0 := eq_true c10
          have c10b1 : decide (300 ≤ (((rd_T37 l0 x4_1).f4).length : Int)) = true := decide_eq_true c10
          clear c10
          obtain ⟨y234, hy234⟩ : ∃ y_ : List Int, y_ = (((rd_T37 l0 x4_1).f4).take 300) := ⟨_, rfl⟩
          replace H : (if x3_1.length < 1954687338268 then (cambiumlaw19_few.l0 kj3 l0 (x3_1 ++ [(⟨(rd_T37 l0 x4_1).f0, (rd_T37 l0 x4_1).f1, (rd_T37 l0 x4_1).f2, (rd_T37 l0 x4_1).f3, y234⟩ : S37)]) (wrap64 (x4_1 + 1))) else (none)) = some r := by first | (rw [hy234]; with_reducible exact H) | (have H2_ := (Option.bind_some _ _).symm.trans H; rw [hy234]; with_reducible exact H2_) | (have H2_ := (Option.bind_some _ _).symm.trans H; with_reducible exact H2_) | with_reducible exact H | (rw [hy234]; exact H) | exact H
          have Ny234 := Aside0.mk hy234
          clear hy234
          by_cases c11 : x3_1.length < 1954687338268
          ·rw [if_pos c11] at H
           have LMc11 := Aside0.mk c11
           clear c11
           obtain ⟨y239, hy239⟩ : ∃ y_ : List (S37), y_ = (x3_1 ++ [(⟨(rd_T37 l0 x4_1).f0, (rd_T37 l0 x4_1).f1, (rd_T37 l0 x4_1).f2, (rd_T37 l0 x4_1).f3, y234⟩ : S37)]) := ⟨_, rfl⟩
           replace H : (cambiumlaw19_few.l0 kj3 l0 y239 (wrap64 (x4_1 + 1))) = some r := by first | (rw [hy239]; with_reducible exact H) | (have H2_ := (Option.bind_some _ _).symm.trans H; rw [hy239]; with_reducible exact H2_) | (have H2_ := (Option.bind_some _ _).symm.trans H; with_reducible exact H2_) | with_reducible exact H | (rw [hy239]; exact H) | exact H
           have Ny239 := Aside0.mk hy239
           clear hy239
           have H' := Aside0.mk H
           clear H
           have p232 : 0 ≤ (x4_1 : Int) := of_decide_eq_true q7_
           have q232 : x4_1 < (l0.length : Int) := of_decide_eq_true q7_
           obtain ⟨ad232, A232_4, c232_4, e232, hx232_0, hx232_1, hx232_2, hx232_3, hx232_4, hl232_4, hi232_4⟩ := at_T37 (Kd.V_reads' HO_0.out).2.2 x4_1 p232 q232
           cases e232
           obtain ⟨ce232, hce232, hMe232, hcc232⟩ := Kd.V_get HO_0.out z37 x4_1 p232 (by first | exact q232 | exact of_decide_eq_true q7_ | (have e_ := (Kd.V_reads' HO_0.out).1; omega))
           obtain ⟨ua232_4, uc232_4, rfl, ul232_4, ge232_4⟩ := k37_openF hMe232
           have hv232_4 := hcc232 4 _ rfl
           rw [add_field _ _ 4 (by omega)] at hv232_4
           replace hv232_4 := Option.some.inj (hv232_4.symm.trans hx232_4)
           injection hv232_4 with hva_ hvn_ hvc_
           rw [hva_] at ge232_4
           rw [hvc_] at ul232_4
           have HL232_4 := Aside0.mk (show Kd.V (Kd.int .u8) 5 _ w.heap.size _ _ ((rd_T37 l0 x4_1).f4) from Kd.V_mk ul232_4 ge232_4)
           clear hva_ hvn_ hvc_ ge232_4 ul232_4
           clear hcc232 hce232
           have HR232_4 := Aside0.mk hi232_4
           have HC232_4 := Aside0.mk hl232_4
           clear hi232_4 hl232_4
           replace p232 := eq_true p232
           replace q232 := eq_true q232
           go_wp2_with (first | ((with_reducible refine gate_dst (N := 5) rfl ?_); refine box_event ?hg (N := 5) ?hd (cs := #[.int .i64 0, .string (⟨#[]⟩ : ByteArray), .string (⟨#[]⟩ : ByteArray), .int .i64 0, .slice none 0 0]) (t := 37) ?hr ?_; (case hd => rfl); (case hg => rfl); (case hr => first | (go_simp; done) | (go_simp; rfl)); intro gb233 hg w12 hbox hb; have n0_ := Aside0.mk (Kd.V_below (Kd.V_elderB q14_ gb233 (Nat.le_of_eq hg.symm)) hb); have n1_ := Aside0.mk (Kd.N_below (Kd.N_elderB q70_ gb233 (Nat.le_of_eq hg.symm)) hb); have n2_ := Aside0.mk (Kd.V_below (Kd.V_elderB (by (with_reducible repeat (first | apply Kd.V_alloc | apply Kd.V_drewN | apply Kd.V_drew)); exact HL232_4.out) gb233 (Nat.le_of_eq hg.symm)) hb); have n3_ := Aside0.mk (Kd.C_below (by repeat (first | (with_reducible exact HR232_4.out) | (with_reducible refine Kd.C_alloc ?_ _) | (with_reducible refine Kd.C_drewN ?_ _) | (with_reducible refine Kd.C_drew ?_) | exact HR232_4.out)) hb); have n4_ := Aside0.mk (below_step q0_ hb); have n5_ := Aside0.mk (hbox); have n6_ := Aside0.mk ((by rw [hg]; exact (below_size q0_) : w.heap.size ≤ gb233)); have n7_ := Aside0.mk ((by rw [hg]; exact (below_size q0_) : w.heap.size ≤ gb233)); clear HO_0; clear HO_3; clear HL232_4; clear HR232_4; clear HB; have HO_0 := n0_; have HO_3 := n1_; have HL232_4 := n2_; have HR232_4 := n3_; have HB := n4_; have BK233 := n5_; have GW233 := n6_; have GE233 := n7_; clear n0_ n1_ n2_ n3_ n4_ n5_ n6_ n7_; clear hb hbox hg; have hcz13_0 : w12.cell? ⟨gb233, 0, none⟩ = some (.int .i64 0) := (blk_cell BK233.out 0).trans rfl; have hcz13_1 : w12.cell? ⟨gb233, 1, none⟩ = some (.string (⟨#[]⟩ : ByteArray)) := (blk_cell BK233.out 1).trans rfl; have hcz13_2 : w12.cell? ⟨gb233, 2, none⟩ = some (.string (⟨#[]⟩ : ByteArray)) := (blk_cell BK233.out 2).trans rfl; have hcz13_3 : w12.cell? ⟨gb233, 3, none⟩ = some (.int .i64 0) := (blk_cell BK233.out 3).trans rfl; have hcz13_4 : w12.cell? ⟨gb233, 4, none⟩ = some (.slice none 0 0) := (blk_cell BK233.out 4).trans rfl; have hfz13_0 := blk_frozen BK233.out 0; have hfz13_1 := blk_frozen BK233.out 1; have hfz13_2 := blk_frozen BK233.out 2; have hfz13_3 := blk_frozen BK233.out 3; have hfz13_4 := blk_frozen BK233.out 4) | ((with_reducible refine gate_store (t := 37) (p := 5) rfl ?_); refine store_event (t := 37) (p := 5) (v := ?vo_w14) (w1 := (((((w12.setCell ⟨gb233, 0, none⟩ (.int .i64 ((rd_T37 l0 x4_1).f0))).setCell ⟨gb233, 1, none⟩ (.string ((rd_T37 l0 x4_1).f1))).setCell ⟨gb233, 2, none⟩ (.string ((rd_T37 l0 x4_1).f2))).setCell ⟨gb233, 3, none⟩ (.int .i64 ((rd_T37 l0 x4_1).f3))).setCell ⟨gb233, 4, none⟩ (.slice A232_4 ((rd_T37 l0 x4_1).f4).length c232_4))) ?hg ?ho ?hn ?hr ?_; (case ho => rfl); (case hg => rfl); (case hn => rfl); (case hr => first | (go_simp; done) | (go_simp; rfl)); intro w14 hw; have n0_ : Aside0 (Kd.V k37 37 w14 w.heap.size (fun k_ => (P0_ k_ ∨ w.heap.size ≤ k_) ∧ some k_ ≠ (u3 : Value).ownBlock ∧ k_ ≠ gb233) (.slice (some ad232) l0.length c0) l0) := ⟨q55_⟩; have n1_ : Aside0 (Kd.N k37 37 w14 w.heap.size (fun k_ => (P0_ k_ ∨ w.heap.size ≤ k_) ∧ k_ ≠ gb233) u3 x3_1) := ⟨q58_⟩; have n2_ : Aside0 (Kd.V (Kd.int .u8) 5 w14 w.heap.size (fun k_ => (P0_ k_ ∨ w.heap.size ≤ k_) ∧ some k_ ≠ (u3 : Value).ownBlock ∧ k_ ≠ gb233) (.slice A232_4 ((rd_T37 l0 x4_1).f4).length c232_4) ((rd_T37 l0 x4_1).f4)) := ⟨q53_⟩; have n3_ : Aside0 (w14.heap[gb233]? = some (.cells #[.int .i64 ((rd_T37 l0 x4_1).f0), .string ((rd_T37 l0 x4_1).f1), .string ((rd_T37 l0 x4_1).f2), .int .i64 ((rd_T37 l0 x4_1).f3), .slice A232_4 ((rd_T37 l0 x4_1).f4).length c232_4] 37 (0, 0))) := ⟨q33_⟩; have n4_ : Aside0 (Below w.heap.size w w14) := ⟨(by rw [hw]; exact q30_)⟩; clear hw; clear HO_0; clear HO_3; clear HL232_4; clear BK233; clear HB; have HO_0 := n0_; have HO_3 := n1_; have HL232_4 := n2_; have BK233 := n3_; have HB := n4_; clear n0_ n1_ n2_ n3_ n4_; have hcz15_0 : w14.cell? ⟨gb233, 0, none⟩ = some (.int .i64 ((rd_T37 l0 x4_1).f0)) := (blk_cell BK233.out 0).trans rfl; have hcz15_1 : w14.cell? ⟨gb233, 1, none⟩ = some (.string ((rd_T37 l0 x4_1).f1)) := (blk_cell BK233.out 1).trans rfl; have hcz15_2 : w14.cell? ⟨gb233, 2, none⟩ = some (.string ((rd_T37 l0 x4_1).f2)) := (blk_cell BK233.out 2).trans rfl; have hcz15_3 : w14.cell? ⟨gb233, 3, none⟩ = some (.int .i64 ((rd_T37 l0 x4_1).f3)) := (blk_cell BK233.out 3).trans rfl; have hcz15_4 : w14.cell? ⟨gb233, 4, none⟩ = some (.slice A232_4 ((rd_T37 l0 x4_1).f4).length c232_4) := (blk_cell BK233.out 4).trans rfl; have hfz15_0 := blk_frozen BK233.out 0; have hfz15_1 := blk_frozen BK233.out 1; have hfz15_2 := blk_frozen BK233.out 2; have hfz15_3 := blk_frozen BK233.out 3; have hfz15_4 := blk_frozen BK233.out 4; have q16 : (300 : Int) ≤ ((((rd_T37 l0 x4_1).f4).length : Int) : Int) := of_decide_eq_true q7_; obtain ⟨i016, hi016, _, hsz16, _⟩ := info_parts info5; have hroom16 : ((rd_T37 l0 x4_1).f4).length ≤ c232_4 := HC232_4.out; have hC16 : Kd.F (Kd.int .u8) _ _ A232_4 ((rd_T37 l0 x4_1).f4).length ((rd_T37 l0 x4_1).f4) := (Kd.V_at (base := w.heap.size) HL232_4.out).2.2; have hcut16 := cut_to (P := Tryd.prog) 35 5 .i64 Tryd.underlying35 hi016 A232_4 ((rd_T37 l0 x4_1).f4).length c232_4 300 (by omega) q16 hroom16; have hr16 := Kd.F_take (m := 300) hC16 (by omega); have hy16 : y234.length = (300 : Int).toNat := (by rw [Ny234.out, List.length_take]; omega); rw [← Ny234.out] at hr16; rw [← hy16] at hcut16; have HO238 := Aside0.mk (show Kd.V (Kd.int .u8) 5 _ w.heap.size _ (.slice A232_4 y234.length c232_4) y234 from Kd.V_mk (by omega) hr16); have HC238 := Aside0.mk (show y234.length ≤ c232_4 from by omega); clear hr16 hC16 hroom16 hi016 hsz16; have KY16 := Aside0.mk hy16; clear hy16; replace q16 := eq_true q16) | ((with_reducible refine gate_store (t := 35) (p := 28) rfl ?_); refine store_event (t := 35) (p := 28) (v := ?vo_w17) (w1 := (w14.setCell ⟨gb233, 4, none⟩ (.slice A232_4 y234.length c232_4))) ?hg ?ho ?hn ?hr ?_; (case ho => rfl); (case hg => rfl); (case hn => rfl); (case hr => first | (go_simp; done) | (go_simp; rfl)); intro w17 hw; have n0_ : Aside0 (Kd.V k37 37 w17 w.heap.size (fun k_ => (P0_ k_ ∨ w.heap.size ≤ k_) ∧ some k_ ≠ (u3 : Value).ownBlock ∧ k_ ≠ gb233) (.slice (some ad232) l0.length c0) l0) := ⟨(by rw [hw]; exact (by (with_reducible repeat (first | apply Kd.V_alloc | apply Kd.V_drewN | apply Kd.V_drew)); exact Kd.V_mono (Kd.V_far (p := ⟨gb233, 4, none⟩) (Kd.V_mono HO_0.out (fun k_ hk => (⟨hk, hk.2.2⟩ : _ ∧ k_ ≠ gb233))) (fun _ hk => hk.2) (.slice A232_4 y234.length c232_4)) (fun _ hk => ⟨hk.1.1, ⟨hk.1.2.1, hk.1.2.2⟩⟩)))⟩; have n1_ : Aside0 (Kd.N k37 37 w17 w.heap.size (fun k_ => (P0_ k_ ∨ w.heap.size ≤ k_) ∧ k_ ≠ gb233) u3 x3_1) := ⟨(by rw [hw]; exact (by (with_reducible repeat (first | apply Kd.N_alloc | apply Kd.N_drewN | apply Kd.N_drew)); exact Kd.N_mono (Kd.N_far (p := ⟨gb233, 4, none⟩) (Kd.N_mono HO_3.out (fun k_ hk => (⟨hk, hk.2⟩ : _ ∧ k_ ≠ gb233))) (fun _ hk => hk.2) (.slice A232_4 y234.length c232_4)) (fun _ hk => ⟨hk.1.1, hk.1.2⟩)))⟩; have n2_ : Aside0 (Kd.V (Kd.int .u8) 5 w17 w.heap.size (fun k_ => (P0_ k_ ∨ w.heap.size ≤ k_) ∧ some k_ ≠ (u3 : Value).ownBlock ∧ k_ ≠ gb233) (.slice A232_4 ((rd_T37 l0 x4_1).f4).length c232_4) ((rd_T37 l0 x4_1).f4)) := ⟨(by rw [hw]; exact (by (with_reducible repeat (first | apply Kd.V_alloc | apply Kd.V_drewN | apply Kd.V_drew)); exact Kd.V_mono (Kd.V_far (p := ⟨gb233, 4, none⟩) (Kd.V_mono HL232_4.out (fun k_ hk => (⟨hk, hk.2.2⟩ : _ ∧ k_ ≠ gb233))) (fun _ hk => hk.2) (.slice A232_4 y234.length c232_4)) (fun _ hk => ⟨hk.1.1, ⟨hk.1.2.1, hk.1.2.2⟩⟩)))⟩; have n3_ : Aside0 (Kd.V (Kd.int .u8) 5 w17 w.heap.size (fun k_ => (P0_ k_ ∨ w.heap.size ≤ k_) ∧ some k_ ≠ (u3 : Value).ownBlock ∧ k_ ≠ gb233) (.slice A232_4 y234.length c232_4) y234) := ⟨(by rw [hw]; exact (by (with_reducible repeat (first | apply Kd.V_alloc | apply Kd.V_drewN | apply Kd.V_drew)); exact Kd.V_mono (Kd.V_far (p := ⟨gb233, 4, none⟩) (Kd.V_mono HO238.out (fun k_ hk => (⟨hk, hk.2.2⟩ : _ ∧ k_ ≠ gb233))) (fun _ hk => hk.2) (.slice A232_4 y234.length c232_4)) (fun _ hk => ⟨hk.1.1, ⟨hk.1.2.1, hk.1.2.2⟩⟩)))⟩; have n4_ : Aside0 (w17.heap[gb233]? = some (.cells #[.int .i64 ((rd_T37 l0 x4_1).f0), .string ((rd_T37 l0 x4_1).f1), .string ((rd_T37 l0 x4_1).f2), .int .i64 ((rd_T37 l0 x4_1).f3), .slice A232_4 y234.length c232_4] 37 (0, 0))) := ⟨(by rw [hw]; exact (by (with_reducible repeat (first | refine blk_drewN ?_ _ | refine blk_drew ?_ | refine blk_alloc ?_ _)); refine blk_put (cs := #[.int .i64 ((rd_T37 l0 x4_1).f0), .string ((rd_T37 l0 x4_1).f1), .string ((rd_T37 l0 x4_1).f2), .int .i64 ((rd_T37 l0 x4_1).f3), .slice A232_4 ((rd_T37 l0 x4_1).f4).length c232_4]) ?_ 4 _ rfl; (with_reducible repeat (first | refine blk_drewN ?_ _ | refine blk_drew ?_ | refine blk_alloc ?_ _)); exact BK233.out))⟩; have n5_ : Aside0 (Below w.heap.size w w17) := ⟨(by rw [hw]; exact q30_)⟩; clear hw; clear HO_0; clear HO_3; clear HL232_4; clear HO238; clear BK233; clear HB; have HO_0 := n0_; have HO_3 := n1_; have HL232_4 := n2_; have HO238 := n3_; have BK233 := n4_; have HB := n5_; clear n0_ n1_ n2_ n3_ n4_ n5_; have hcz18_0 : w17.cell? ⟨gb233, 0, none⟩ = some (.int .i64 ((rd_T37 l0 x4_1).f0)) := (blk_cell BK233.out 0).trans rfl; have hcz18_1 : w17.cell? ⟨gb233, 1, none⟩ = some (.string ((rd_T37 l0 x4_1).f1)) := (blk_cell BK233.out 1).trans rfl; have hcz18_2 : w17.cell? ⟨gb233, 2, none⟩ = some (.string ((rd_T37 l0 x4_1).f2)) := (blk_cell BK233.out 2).trans rfl; have hcz18_3 : w17.cell? ⟨gb233, 3, none⟩ = some (.int .i64 ((rd_T37 l0 x4_1).f3)) := (blk_cell BK233.out 3).trans rfl; have hcz18_4 : w17.cell? ⟨gb233, 4, none⟩ = some (.slice A232_4 y234.length c232_4) := (blk_cell BK233.out 4).trans rfl; have hfz18_0 := blk_frozen BK233.out 0; have hfz18_1 := blk_frozen BK233.out 1; have hfz18_2 := blk_frozen BK233.out 2; have hfz18_3 := blk_frozen BK233.out 3; have hfz18_4 := blk_frozen BK233.out 4) | ((with_reducible refine gate_builtin (b := .append) (xs := #[.tmp 29, .tmp 31]) rfl ?_); at_builtin; refine Kd.N_append k37 (w0 := w) w.heap.size rfl (.tmp 29) (.tmp 31) 32 37 (.agg #[(.int .i64 0), (.string ⟨#[]⟩), (.string ⟨#[]⟩), (.int .i64 0), (.slice none 0 0)]) 72 rfl Tryd.underlying32 info37 rfl q81_ (by omega) u3 x3_1 (⟨(rd_T37 l0 x4_1).f0, (rd_T37 l0 x4_1).f1, (rd_T37 l0 x4_1).f2, (rd_T37 l0 x4_1).f3, y234⟩ : S37) [.int .i64 ((rd_T37 l0 x4_1).f0), .string ((rd_T37 l0 x4_1).f1), .string ((rd_T37 l0 x4_1).f2), .int .i64 ((rd_T37 l0 x4_1).f3), .slice A232_4 y234.length c232_4] (fun k_ => (P0_ k_ ∨ w.heap.size ≤ k_) ∧ k_ ≠ gb233) (fun k_ => ((fun k_ => (P0_ k_ ∨ w.heap.size ≤ k_) ∧ k_ ≠ gb233)) k_ ∧ some k_ ≠ (u3 : Value).ownBlock) rfl rfl ?aP (fun _ hk => hk) ?aF ?aO ?aB ?aS ?aL ?_; (case aP => exact (k37_mkF _ _ (⟨(rd_T37 l0 x4_1).f0, (rd_T37 l0 x4_1).f1, (rd_T37 l0 x4_1).f2, (rd_T37 l0 x4_1).f3, y234⟩ : S37) (Kd.V_reads' (Kd.V_mono (ok' := (fun k_ => ((fun k_ => (P0_ k_ ∨ w.heap.size ≤ k_) ∧ k_ ≠ gb233)) k_ ∧ some k_ ≠ (u3 : Value).ownBlock)) (HO238.out) (fun k_ hk => ⟨⟨hk.1, hk.2.2⟩, hk.2.1⟩))).2.1 (Kd.V_F (Kd.V_mono (ok' := (fun k_ => ((fun k_ => (P0_ k_ ∨ w.heap.size ≤ k_) ∧ k_ ≠ gb233)) k_ ∧ some k_ ≠ (u3 : Value).ownBlock)) (HO238.out) (fun k_ hk => ⟨⟨hk.1, hk.2.2⟩, hk.2.1⟩))))); (case aB => exact q30_); (case aF => exact (fun k_ hk => ⟨(.inr (Nat.le_trans (below_size q30_) hk)), Kd.freshB (g := gb233) (o := .cells #[.int .i64 ((rd_T37 l0 x4_1).f0), .string ((rd_T37 l0 x4_1).f1), .string ((rd_T37 l0 x4_1).f2), .int .i64 ((rd_T37 l0 x4_1).f3), .slice A232_4 y234.length c232_4] 37 (0, 0)) (by (with_reducible repeat (first | refine blk_drewN ?_ _ | refine blk_drew ?_ | refine blk_alloc ?_ _)); exact BK233.out) k_ hk⟩)); (case aO => exact q70_); (case aS => exact (below_size q30_)); (case aL => have := LMc11.out; omega); intro v240 w19 ho hb hg hat; rw [← Ny239.out] at ho; have n0_ := Aside0.mk (Kd.V_afterv (ok := (fun k_ => (P0_ k_ ∨ w.heap.size ≤ k_) ∧ k_ ≠ gb233)) q60_ hg hat); have n1_ := Aside0.mk (Kd.V_afterv (ok := (fun k_ => (P0_ k_ ∨ w.heap.size ≤ k_) ∧ k_ ≠ gb233)) (by (with_reducible repeat (first | apply Kd.V_alloc | apply Kd.V_drewN | apply Kd.V_drew)); exact Kd.V_mono HL232_4.out (fun _ hk => ⟨⟨hk.1, hk.2.2⟩, hk.2.1⟩)) hg hat); have n2_ := Aside0.mk (blk_grown (g := gb233) (o := .cells #[.int .i64 ((rd_T37 l0 x4_1).f0), .string ((rd_T37 l0 x4_1).f1), .string ((rd_T37 l0 x4_1).f2), .int .i64 ((rd_T37 l0 x4_1).f3), .slice A232_4 y234.length c232_4] 37 (0, 0)) (by (with_reducible repeat (first | refine blk_drewN ?_ _ | refine blk_drew ?_ | refine blk_alloc ?_ _)); exact BK233.out) hg (Kd.N_away HO_3.out (fun _ hk => hk.2))); have n3_ := Aside0.mk (Kd.V_afterv (ok := (fun k_ => (P0_ k_ ∨ w.heap.size ≤ k_) ∧ k_ ≠ gb233)) (by (with_reducible repeat (first | apply Kd.V_alloc | apply Kd.V_drewN | apply Kd.V_drew)); exact Kd.V_mono HO238.out (fun _ hk => ⟨⟨hk.1, hk.2.2⟩, hk.2.1⟩)) hg hat); have n4_ := Aside0.mk (hb); have n5_ := Aside0.mk (ho); clear HO_0; clear HL232_4; clear BK233; clear HO238; clear HB; clear HO_3; have HO_0 := n0_; have HL232_4 := n1_; have BK233 := n2_; have HO238 := n3_; have HB := n4_; have HO241 := n5_; clear n0_ n1_ n2_ n3_ n4_ n5_; clear ho hb hg hat))
           go_roundg kj3
           case measure => have := HK1.out; have := HJ3.out; omega
           case rel => exact ⟨(y239), (wrap64 (x4_1 + 1)), q3_, H', ⟨by have := HK1.out; have := HJ3.out; omega⟩, ⟨q71_⟩, ⟨by (with_reducible repeat (first | apply Kd.N_alloc | apply Kd.N_drewN | apply Kd.N_drew)); exact Kd.N_mono HO241.out (fun _ hk => hk.1)⟩, ⟨q30_⟩⟩
          ·rw [if_neg c11] at H
           exact absurd H (by simp)
         ·rw [if_neg c10] at H
          exact absurd H (by simp)
        ·rw [if_neg c9] at H
         have c9b0 : decide (300 < (((rd_T37 l0 x4_1).f4).length : Int)) = false := decide_eq_false c9
         have c9b1 : decide (300 < ((rd_T37 l0 x4_1).f4).length) = false := decide_eq_false (by omega)
         clear c9
         by_cases c20 : x3_1.length < 1954687338268
         ·rw [if_pos c20] at H
          have LMc20 := Aside0.mk c20
          clear c20
          obtain ⟨y242, hy242⟩ : ∃ y_ : List (S37), y_ = (x3_1 ++ [(⟨(rd_T37 l0 x4_1).f0, (rd_T37 l0 x4_1).f1, (rd_T37 l0 x4_1).f2, (rd_T37 l0 x4_1).f3, (rd_T37 l0 x4_1).f4⟩ : S37)]) := ⟨_, rfl⟩
          replace H : (cambiumlaw19_few.l0 kj3 l0 y242 (wrap64 (x4_1 + 1))) = some r := by first | (rw [hy242]; with_reducible exact H) | (have H2_ := (Option.bind_some _ _).symm.trans H; rw [hy242]; with_reducible exact H2_) | (have H2_ := (Option.bind_some _ _).symm.trans H; with_reducible exact H2_) | with_reducible exact H | (rw [hy242]; exact H) | exact H
          have Ny242 := Aside0.mk hy242
          clear hy242
          have H' := Aside0.mk H
          clear H
          have p232 : 0 ≤ (x4_1 : Int) := of_decide_eq_true q7_
          have q232 : x4_1 < (l0.length : Int) := of_decide_eq_true q7_
          obtain ⟨ad232, A232_4, c232_4, e232, hx232_0, hx232_1, hx232_2, hx232_3, hx232_4, hl232_4, hi232_4⟩ := at_T37 (Kd.V_reads' HO_0.out).2.2 x4_1 p232 q232
          cases e232
          obtain ⟨ce232, hce232, hMe232, hcc232⟩ := Kd.V_get HO_0.out z37 x4_1 p232 (by first | exact q232 | exact of_decide_eq_true q7_ | (have e_ := (Kd.V_reads' HO_0.out).1; omega))
          obtain ⟨ua232_4, uc232_4, rfl, ul232_4, ge232_4⟩ := k37_openF hMe232
          have hv232_4 := hcc232 4 _ rfl
          rw [add_field _ _ 4 (by omega)] at hv232_4
          replace hv232_4 := Option.some.inj (hv232_4.symm.trans hx232_4)
          injection hv232_4 with hva_ hvn_ hvc_
          rw [hva_] at ge232_4
          rw [hvc_] at ul232_4
          have HL232_4 := Aside0.mk (show Kd.V (Kd.int .u8) 5 _ w.heap.size _ _ ((rd_T37 l0 x4_1).f4) from Kd.V_mk ul232_4 ge232_4)
          clear hva_ hvn_ hvc_ ge232_4 ul232_4
          clear hcc232 hce232
          have HR232_4 := Aside0.mk hi232_4
          have HC232_4 := Aside0.mk hl232_4
          clear hi232_4 hl232_4
          replace p232 := eq_true p232
          replace q232 := eq_true q232
          go_wp2_with (first | ((with_reducible refine gate_dst (N := 5) rfl ?_); refine box_event ?hg (N := 5) ?hd (cs := #[.int .i64 0, .string (⟨#[]⟩ : ByteArray), .string (⟨#[]⟩ : ByteArray), .int .i64 0, .slice none 0 0]) (t := 37) ?hr ?_; (case hd => rfl); (case hg => rfl); (case hr => first | (go_simp; done) | (go_simp; rfl)); intro gb233 hg w21 hbox hb; have n0_ := Aside0.mk (Kd.V_below (Kd.V_elderB q14_ gb233 (Nat.le_of_eq hg.symm)) hb); have n1_ := Aside0.mk (Kd.N_below (Kd.N_elderB q70_ gb233 (Nat.le_of_eq hg.symm)) hb); have n2_ := Aside0.mk (Kd.V_below (Kd.V_elderB (by (with_reducible repeat (first | apply Kd.V_alloc | apply Kd.V_drewN | apply Kd.V_drew)); exact HL232_4.out) gb233 (Nat.le_of_eq hg.symm)) hb); have n3_ := Aside0.mk (Kd.C_below (by repeat (first | (with_reducible exact HR232_4.out) | (with_reducible refine Kd.C_alloc ?_ _) | (with_reducible refine Kd.C_drewN ?_ _) | (with_reducible refine Kd.C_drew ?_) | exact HR232_4.out)) hb); have n4_ := Aside0.mk (below_step q0_ hb); have n5_ := Aside0.mk (hbox); have n6_ := Aside0.mk ((by rw [hg]; exact (below_size q0_) : w.heap.size ≤ gb233)); have n7_ := Aside0.mk ((by rw [hg]; exact (below_size q0_) : w.heap.size ≤ gb233)); clear HO_0; clear HO_3; clear HL232_4; clear HR232_4; clear HB; have HO_0 := n0_; have HO_3 := n1_; have HL232_4 := n2_; have HR232_4 := n3_; have HB := n4_; have BK233 := n5_; have GW233 := n6_; have GE233 := n7_; clear n0_ n1_ n2_ n3_ n4_ n5_ n6_ n7_; clear hb hbox hg; have hcz22_0 : w21.cell? ⟨gb233, 0, none⟩ = some (.int .i64 0) := (blk_cell BK233.out 0).trans rfl; have hcz22_1 : w21.cell? ⟨gb233, 1, none⟩ = some (.string (⟨#[]⟩ : ByteArray)) := (blk_cell BK233.out 1).trans rfl; have hcz22_2 : w21.cell? ⟨gb233, 2, none⟩ = some (.string (⟨#[]⟩ : ByteArray)) := (blk_cell BK233.out 2).trans rfl; have hcz22_3 : w21.cell? ⟨gb233, 3, none⟩ = some (.int .i64 0) := (blk_cell BK233.out 3).trans rfl; have hcz22_4 : w21.cell? ⟨gb233, 4, none⟩ = some (.slice none 0 0) := (blk_cell BK233.out 4).trans rfl; have hfz22_0 := blk_frozen BK233.out 0; have hfz22_1 := blk_frozen BK233.out 1; have hfz22_2 := blk_frozen BK233.out 2; have hfz22_3 := blk_frozen BK233.out 3; have hfz22_4 := blk_frozen BK233.out 4) | ((with_reducible refine gate_store (t := 37) (p := 5) rfl ?_); refine store_event (t := 37) (p := 5) (v := ?vo_w23) (w1 := (((((w21.setCell ⟨gb233, 0, none⟩ (.int .i64 ((rd_T37 l0 x4_1).f0))).setCell ⟨gb233, 1, none⟩ (.string ((rd_T37 l0 x4_1).f1))).setCell ⟨gb233, 2, none⟩ (.string ((rd_T37 l0 x4_1).f2))).setCell ⟨gb233, 3, none⟩ (.int .i64 ((rd_T37 l0 x4_1).f3))).setCell ⟨gb233, 4, none⟩ (.slice A232_4 ((rd_T37 l0 x4_1).f4).length c232_4))) ?hg ?ho ?hn ?hr ?_; (case ho => rfl); (case hg => rfl); (case hn => rfl); (case hr => first | (go_simp; done) | (go_simp; rfl)); intro w23 hw; have n0_ : Aside0 (Kd.V k37 37 w23 w.heap.size (fun k_ => (P0_ k_ ∨ w.heap.size ≤ k_) ∧ some k_ ≠ (u3 : Value).ownBlock ∧ k_ ≠ gb233) (.slice (some ad232) l0.length c0) l0) := ⟨q55_⟩; have n1_ : Aside0 (Kd.N k37 37 w23 w.heap.size (fun k_ => (P0_ k_ ∨ w.heap.size ≤ k_) ∧ k_ ≠ gb233) u3 x3_1) := ⟨q58_⟩; have n2_ : Aside0 (Kd.V (Kd.int .u8) 5 w23 w.heap.size (fun k_ => (P0_ k_ ∨ w.heap.size ≤ k_) ∧ some k_ ≠ (u3 : Value).ownBlock ∧ k_ ≠ gb233) (.slice A232_4 ((rd_T37 l0 x4_1).f4).length c232_4) ((rd_T37 l0 x4_1).f4)) := ⟨q53_⟩; have n3_ : Aside0 (w23.heap[gb233]? = some (.cells #[.int .i64 ((rd_T37 l0 x4_1).f0), .string ((rd_T37 l0 x4_1).f1), .string ((rd_T37 l0 x4_1).f2), .int .i64 ((rd_T37 l0 x4_1).f3), .slice A232_4 ((rd_T37 l0 x4_1).f4).length c232_4] 37 (0, 0))) := ⟨q33_⟩; have n4_ : Aside0 (Below w.heap.size w w23) := ⟨(by rw [hw]; exact q30_)⟩; clear hw; clear HO_0; clear HO_3; clear HL232_4; clear BK233; clear HB; have HO_0 := n0_; have HO_3 := n1_; have HL232_4 := n2_; have BK233 := n3_; have HB := n4_; clear n0_ n1_ n2_ n3_ n4_; have hcz24_0 : w23.cell? ⟨gb233, 0, none⟩ = some (.int .i64 ((rd_T37 l0 x4_1).f0)) := (blk_cell BK233.out 0).trans rfl; have hcz24_1 : w23.cell? ⟨gb233, 1, none⟩ = some (.string ((rd_T37 l0 x4_1).f1)) := (blk_cell BK233.out 1).trans rfl; have hcz24_2 : w23.cell? ⟨gb233, 2, none⟩ = some (.string ((rd_T37 l0 x4_1).f2)) := (blk_cell BK233.out 2).trans rfl; have hcz24_3 : w23.cell? ⟨gb233, 3, none⟩ = some (.int .i64 ((rd_T37 l0 x4_1).f3)) := (blk_cell BK233.out 3).trans rfl; have hcz24_4 : w23.cell? ⟨gb233, 4, none⟩ = some (.slice A232_4 ((rd_T37 l0 x4_1).f4).length c232_4) := (blk_cell BK233.out 4).trans rfl; have hfz24_0 := blk_frozen BK233.out 0; have hfz24_1 := blk_frozen BK233.out 1; have hfz24_2 := blk_frozen BK233.out 2; have hfz24_3 := blk_frozen BK233.out 3; have hfz24_4 := blk_frozen BK233.out 4) | ((with_reducible refine gate_builtin (b := .append) (xs := #[.tmp 29, .tmp 31]) rfl ?_); at_builtin; refine Kd.N_append k37 (w0 := w) w.heap.size rfl (.tmp 29) (.tmp 31) 32 37 (.agg #[(.int .i64 0), (.string ⟨#[]⟩), (.string ⟨#[]⟩), (.int .i64 0), (.slice none 0 0)]) 72 rfl Tryd.underlying32 info37 rfl q81_ (by omega) u3 x3_1 (⟨(rd_T37 l0 x4_1).f0, (rd_T37 l0 x4_1).f1, (rd_T37 l0 x4_1).f2, (rd_T37 l0 x4_1).f3, (rd_T37 l0 x4_1).f4⟩ : S37) [.int .i64 ((rd_T37 l0 x4_1).f0), .string ((rd_T37 l0 x4_1).f1), .string ((rd_T37 l0 x4_1).f2), .int .i64 ((rd_T37 l0 x4_1).f3), .slice A232_4 ((rd_T37 l0 x4_1).f4).length c232_4] (fun k_ => (P0_ k_ ∨ w.heap.size ≤ k_) ∧ k_ ≠ gb233) (fun k_ => ((fun k_ => (P0_ k_ ∨ w.heap.size ≤ k_) ∧ k_ ≠ gb233)) k_ ∧ some k_ ≠ (u3 : Value).ownBlock) rfl rfl ?aP (fun _ hk => hk) ?aF ?aO ?aB ?aS ?aL ?_; (case aP => exact (k37_mkF _ _ (⟨(rd_T37 l0 x4_1).f0, (rd_T37 l0 x4_1).f1, (rd_T37 l0 x4_1).f2, (rd_T37 l0 x4_1).f3, (rd_T37 l0 x4_1).f4⟩ : S37) (Kd.V_reads' (Kd.V_mono (ok' := (fun k_ => ((fun k_ => (P0_ k_ ∨ w.heap.size ≤ k_) ∧ k_ ≠ gb233)) k_ ∧ some k_ ≠ (u3 : Value).ownBlock)) (HL232_4.out) (fun k_ hk => ⟨⟨hk.1, hk.2.2⟩, hk.2.1⟩))).2.1 (Kd.V_F (Kd.V_mono (ok' := (fun k_ => ((fun k_ => (P0_ k_ ∨ w.heap.size ≤ k_) ∧ k_ ≠ gb233)) k_ ∧ some k_ ≠ (u3 : Value).ownBlock)) (HL232_4.out) (fun k_ hk => ⟨⟨hk.1, hk.2.2⟩, hk.2.1⟩))))); (case aB => exact q30_); (case aF => exact (fun k_ hk => ⟨(.inr (Nat.le_trans (below_size q30_) hk)), Kd.freshB (g := gb233) (o := .cells #[.int .i64 ((rd_T37 l0 x4_1).f0), .string ((rd_T37 l0 x4_1).f1), .string ((rd_T37 l0 x4_1).f2), .int .i64 ((rd_T37 l0 x4_1).f3), .slice A232_4 ((rd_T37 l0 x4_1).f4).length c232_4] 37 (0, 0)) (by (with_reducible repeat (first | refine blk_drewN ?_ _ | refine blk_drew ?_ | refine blk_alloc ?_ _)); exact BK233.out) k_ hk⟩)); (case aO => exact q70_); (case aS => exact (below_size q30_)); (case aL => have := LMc20.out; omega); intro v243 w25 ho hb hg hat; rw [← Ny242.out] at ho; have n0_ := Aside0.mk (Kd.V_afterv (ok := (fun k_ => (P0_ k_ ∨ w.heap.size ≤ k_) ∧ k_ ≠ gb233)) q60_ hg hat); have n1_ := Aside0.mk (Kd.V_afterv (ok := (fun k_ => (P0_ k_ ∨ w.heap.size ≤ k_) ∧ k_ ≠ gb233)) (by (with_reducible repeat (first | apply Kd.V_alloc | apply Kd.V_drewN | apply Kd.V_drew)); exact Kd.V_mono HL232_4.out (fun _ hk => ⟨⟨hk.1, hk.2.2⟩, hk.2.1⟩)) hg hat); have n2_ := Aside0.mk (blk_grown (g := gb233) (o := .cells #[.int .i64 ((rd_T37 l0 x4_1).f0), .string ((rd_T37 l0 x4_1).f1), .string ((rd_T37 l0 x4_1).f2), .int .i64 ((rd_T37 l0 x4_1).f3), .slice A232_4 ((rd_T37 l0 x4_1).f4).length c232_4] 37 (0, 0)) (by (with_reducible repeat (first | refine blk_drewN ?_ _ | refine blk_drew ?_ | refine blk_alloc ?_ _)); exact BK233.out) hg (Kd.N_away HO_3.out (fun _ hk => hk.2))); have n3_ := Aside0.mk (hb); have n4_ := Aside0.mk (ho); clear HO_0; clear HL232_4; clear BK233; clear HB; clear HO_3; have HO_0 := n0_; have HL232_4 := n1_; have BK233 := n2_; have HB := n3_; have HO244 := n4_; clear n0_ n1_ n2_ n3_ n4_; clear ho hb hg hat))
          go_roundg kj3
          case measure => have := HK1.out; have := HJ3.out; omega
          case rel => exact ⟨(y242), (wrap64 (x4_1 + 1)), q3_, H', ⟨by have := HK1.out; have := HJ3.out; omega⟩, ⟨q71_⟩, ⟨by (with_reducible repeat (first | apply Kd.N_alloc | apply Kd.N_drewN | apply Kd.N_drew)); exact Kd.N_mono HO244.out (fun _ hk => hk.1)⟩, ⟨q30_⟩⟩
         ·rw [if_neg c20] at H
          exact absurd H (by simp)
       ·rw [if_neg c8] at H
        exact absurd H (by simp)
      ·rw [if_neg c7] at H
       exact absurd H (by simp)
     ·replace c6 := Bool.eq_false_iff.mpr c6
      subst c6
      have H1 : (some x3_1) = some r := by rw [if_neg (show ¬ (false = true) by decide)] at H; exact H
      clear H
      have H := H1
      clear H1
      obtain rfl := Option.some.inj H
      go_wp2
      go_ret
      exact ⟨_, by first | rfl | (simp [errW_none, errW_some] <;> rfl) | (simp [*, errW_none, errW_some] <;> rfl), by (with_reducible repeat (first | apply Kd.N_alloc | apply Kd.N_drewN | apply Kd.N_drew)); exact HO_3.out, by repeat (first | (with_reducible first | exact HB.out | apply below_alloc | apply pw_below_drewN | apply below_drew1) | exact HB.out)⟩

end Go.Proofs.YtgklipfeheohkaaDoor.P
