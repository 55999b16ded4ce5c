/- Functions and contracts, written by a program (mkprint.py, a wrapper of ours around the print); texts between GIVEN marks are ours. -/
import Derived.Test.YtgklipfeheohkaaDoorPx0
import Derived.Test.YtgklipfeheohkaaDoorPx1
namespace Go.Proofs.YtgklipfeheohkaaDoor.P
open Go.RowKit Go.Proofs.YtgklipfeheohkaaDoorW.PrintWords Go.Proofs.YtgklipfeheohkaaDoorW.PrintLast Go.Proofs.YtgklipfeheohkaaDoorW.PrintMore
attribute [local go_sem] max2_int min2_int max_two min_two max_three min_three max_four min_four   -- for this text's walks alone
set_option linter.unusedVariables false
set_option linter.unusedSimpArgs false
theorem q30_ {P : Prop} (h : P := by repeat (first | (with_reducible first | exact HB.out | apply below_alloc | apply pw_below_drewN | apply below_drew1 | refine below_set ?_ GE105.out) | exact HB.out)) : P := h
theorem q38_ {P : Prop} (h : P := by (with_reducible repeat (first | refine blk_drewN ?_ _ | refine blk_drew ?_ | refine blk_alloc ?_ _)); exact BK105.out) : P := h

/-! ### stream_Good: function 17 -/
def stream_Good.j0 : Nat → Bool → Int → ByteArray → ByteArray → Int → List Int → Option (Bool)
 | 0, _, _, _, _, _, _ => none
 | k + 1, x19, x106000, x106001, x106002, x106003, x106004 => if x19 = true then (some false) else (if x106000 = 3 then ((stream_path.f x106002).bind fun t107 => (if t107 = true then (if x106003 = 0 then (some ((x106004.length : Int) == 0)) else (some false)) else (some false))) else (if x106000 = 4 then (if (x106004.length : Int) > 0 then (if x106003 ≥ 0 then (if x106002.toList = ([] : List UInt8) then (if x106003 ≤ 8192 then (some (decide ((x106004.length : Int) ≤ 128))) else (some false)) else (some false)) else (if x106002.toList = ([] : List UInt8) then (some false) else (some false))) else (if x106003 ≥ 0 then (if x106002.toList = ([] : List UInt8) then (if x106003 ≤ 8192 then (some false) else (some false)) else (some false)) else (if x106002.toList = ([] : List UInt8) then (some false) else (some false)))) else (if x106000 = 5 then (if x106003 ≥ 0 then (if x106002.toList = ([] : List UInt8) then (if x106003 ≤ 8192 then (some ((x106004.length : Int) == 0)) else (some false)) else (some false)) else (if x106002.toList = ([] : List UInt8) then (some false) else (some false))) else (if x106002.toList = ([] : List UInt8) then (if x106003 = 0 then (some ((x106004.length : Int) == 0)) else (some false)) else (some false)))))
def stream_Good.f (k : Nat) (a0_0 : Int) (a0_1 : ByteArray) (a0_2 : ByteArray) (a0_3 : Int) (l0_4 : List Int) : Option (Bool) := if a0_0 < 1 then (stream_Good.j0 k true a0_0 a0_1 a0_2 a0_3 l0_4) else (if a0_0 > 7 then (stream_Good.j0 k true a0_0 a0_1 a0_2 a0_3 l0_4) else ((stream_path.f a0_1).bind fun t106 => (stream_Good.j0 k (!t106) a0_0 a0_1 a0_2 a0_3 l0_4)))
theorem stream_Good.mono_l : ∀ k, (∀ y0 y1 y2 y3 y4 y5, LeO (stream_Good.j0 k y0 y1 y2 y3 y4 y5) (stream_Good.j0 (k + 1) y0 y1 y2 y3 y4 y5))
 | 0 => fun _ _ _ _ _ _ r h => absurd (show none = some r from h) (by simp)
 | k + 1 => by
  have ih0 := stream_Good.mono_l k
  ·intro y0 y1 y2 y3 y4 y5
   unfold stream_Good.j0
   repeat' first
   | (with_reducible exact ih0 _ _ _ _ _ _)
   | (with_reducible exact LeO.refl _)
   | (with_reducible exact LeO.none _)
   | (with_reducible refine LeO.ite ?_ ?_)
   | (with_reducible refine LeO.bind ?_ (fun _ => ?_))
   | exact ih0 _ _ _ _ _ _
   | exact LeO.none _
   | refine LeO.ite ?_ ?_
   | refine LeO.bind ?_ (fun _ => ?_)
theorem stream_Good.mono : ∀ a0 a1 a2 a3 a4 k, LeO (stream_Good.f k a0 a1 a2 a3 a4) (stream_Good.f (k + 1) a0 a1 a2 a3 a4) := by
 intro a0 a1 a2 a3 a4 k
 have ih0 := stream_Good.mono_l k
 unfold stream_Good.f
 repeat' first
   | (with_reducible exact ih0 _ _ _ _ _ _)
   | (with_reducible exact LeO.refl _)
   | (with_reducible exact LeO.none _)
   | (with_reducible refine LeO.ite ?_ ?_)
   | (with_reducible refine LeO.bind ?_ (fun _ => ?_))
   | exact ih0 _ _ _ _ _ _
   | exact LeO.none _
   | refine LeO.ite ?_ ?_
   | refine LeO.bind ?_ (fun _ => ?_)
set_option maxHeartbeats 8000000 in
set_option maxRecDepth 100000 in
theorem stream_Good.calls (k : Nat) (a0_0 : Int) (a0_1 : ByteArray) (a0_2 : ByteArray) (a0_3 : Int) (A0_4 : Option Addr) (c0_4 : Nat) (l0_4 : List Int) (r : Bool) (w : World) (hr0_4 : Kd.C (Kd.int .u8) w A0_4 l0_4.length l0_4) (hc0_4 : l0_4.length ≤ c0_4) (h : stream_Good.f k a0_0 a0_1 a0_2 a0_3 l0_4 = some r) :
  Calls Tryd.prog 17 #[.agg #[.int .i64 a0_0, .string a0_1, .string a0_2, .int .i64 a0_3, .slice A0_4 l0_4.length c0_4]] w fun e w' => e = .returned (.bool r) ∧ Below w.heap.size w w' := by
 have hu37 := Tryd.underlying37
 have HR0_4 := Aside0.mk hr0_4
 have HC0_4 := Aside0.mk hc0_4
 clear hr0_4 hc0_4
 have HB := Aside0.mk (Below.refl w.heap.size w)
 have H : (if a0_0 < 1 then (stream_Good.j0 k true a0_0 a0_1 a0_2 a0_3 l0_4) else (if a0_0 > 7 then (stream_Good.j0 k true a0_0 a0_1 a0_2 a0_3 l0_4) else ((stream_path.f a0_1).bind fun t106 => (stream_Good.j0 k (!t106) a0_0 a0_1 a0_2 a0_3 l0_4)))) = some r := h
 clear h
 have HC2 := Aside0.mk H
 clear H
 go_enter Tryd.func17, Tryd.ntmps17
 go_upto_region 1 with (first | ((with_reducible refine gate_dst (N := 1) rfl ?_); (try (refine gate_guard (by rfl) ?_; dsimp only)); refine box_event ?hg (N := 1) ?hd (cs := #[.int .i64 a0_0, .string a0_1, .string a0_2, .int .i64 a0_3, .slice A0_4 l0_4.length c0_4]) (t := 37) ?hr ?_; (case hd => rfl); (case hg => rfl); (case hr => first | (go_simp; done) | (go_simp; rfl)); intro gb105 hg w3 hbox hb; have n0_ := Aside0.mk (below_step q0_ hb); have n1_ := Aside0.mk (hbox); have n2_ := Aside0.mk ((by rw [hg]; exact (below_size q0_) : w.heap.size ≤ gb105)); have n3_ := Aside0.mk ((by rw [hg]; exact (below_size q0_) : w.heap.size ≤ gb105)); clear HB; have HB := n0_; have BK105 := n1_; have GW105 := n2_; have GE105 := n3_; clear n0_ n1_ n2_ n3_; clear hb hbox hg))
 repeat (go_quiet (first | ((with_reducible refine gate_dst (N := 1) rfl ?_); (try (refine gate_guard (by rfl) ?_; dsimp only)); refine box_event ?hg (N := 1) ?hd (cs := #[.int .i64 a0_0, .string a0_1, .string a0_2, .int .i64 a0_3, .slice A0_4 l0_4.length c0_4]) (t := 37) ?hr ?_; (case hd => rfl); (case hg => rfl); (case hr => first | (go_simp; done) | (go_simp; rfl)); intro gb105 hg w3 hbox hb; have n0_ := Aside0.mk (below_step q0_ hb); have n1_ := Aside0.mk (hbox); have n2_ := Aside0.mk ((by rw [hg]; exact (below_size q0_) : w.heap.size ≤ gb105)); have n3_ := Aside0.mk ((by rw [hg]; exact (below_size q0_) : w.heap.size ≤ gb105)); clear HB; have HB := n0_; have BK105 := n1_; have GW105 := n2_; have GE105 := n3_; clear n0_ n1_ n2_ n3_; clear hb hbox hg)); go_upto_region 1 with (first | ((with_reducible refine gate_dst (N := 1) rfl ?_); (try (refine gate_guard (by rfl) ?_; dsimp only)); refine box_event ?hg (N := 1) ?hd (cs := #[.int .i64 a0_0, .string a0_1, .string a0_2, .int .i64 a0_3, .slice A0_4 l0_4.length c0_4]) (t := 37) ?hr ?_; (case hd => rfl); (case hg => rfl); (case hr => first | (go_simp; done) | (go_simp; rfl)); intro gb105 hg w3 hbox hb; have n0_ := Aside0.mk (below_step q0_ hb); have n1_ := Aside0.mk (hbox); have n2_ := Aside0.mk ((by rw [hg]; exact (below_size q0_) : w.heap.size ≤ gb105)); have n3_ := Aside0.mk ((by rw [hg]; exact (below_size q0_) : w.heap.size ≤ gb105)); clear HB; have HB := n0_; have BK105 := n1_; have GW105 := n2_; have GE105 := n3_; clear n0_ n1_ n2_ n3_; clear hb hbox hg)))
 (try simp only [Act.put, List.setIfInBounds_toArray, List.set_cons_zero, List.set_cons_succ])
 go_cut [19] (fun v19 wc => ∃ (kq : Nat) (x19_1 : Bool), v19 = .bool x19_1 ∧ Aside0 (stream_Good.j0 kq x19_1 a0_0 a0_1 a0_2 a0_3 l0_4 = some r) ∧ Aside0 (kq ≤ k) ∧ Aside0 (wc.heap[gb105]? = some (.cells #[.int .i64 a0_0, .string a0_1, .string a0_2, .int .i64 a0_3, (.slice A0_4 l0_4.length c0_4)] 37 (0, 0))) ∧ Aside0 (Below w.heap.size w wc))
 case first =>
  have H := HC2.out
  clear HC2
  by_cases c4 : a0_0 < 1
  ·rw [if_pos c4] at H
   have c4b0 : decide (a0_0 < 1) = true := decide_eq_true c4
   clear c4
   (first | rw [c4b0] | (simp only [i64_w, i32_w]; rw [c4b0]) | skip)
   have H' := Aside0.mk H
   clear H
   have hcz5_0 : w3.cell? ⟨gb105, 0, none⟩ = some (.int .i64 a0_0) := (blk_cell BK105.out 0).trans rfl
   have hcz5_1 : w3.cell? ⟨gb105, 1, none⟩ = some (.string a0_1) := (blk_cell BK105.out 1).trans rfl
   have hcz5_2 : w3.cell? ⟨gb105, 2, none⟩ = some (.string a0_2) := (blk_cell BK105.out 2).trans rfl
   have hcz5_3 : w3.cell? ⟨gb105, 3, none⟩ = some (.int .i64 a0_3) := (blk_cell BK105.out 3).trans rfl
   have hcz5_4 : w3.cell? ⟨gb105, 4, none⟩ = some (.slice A0_4 l0_4.length c0_4) := (blk_cell BK105.out 4).trans rfl
   have hfz5_0 := blk_frozen BK105.out 0
   have hfz5_1 := blk_frozen BK105.out 1
   have hfz5_2 := blk_frozen BK105.out 2
   have hfz5_3 := blk_frozen BK105.out 3
   have hfz5_4 := blk_frozen BK105.out 4
   go_wp2
   repeat (go_quiet (fail); try go_wp2)
   go_meet
   case rel => exact ⟨_, (true), q4_, H', ⟨q64_⟩, ⟨q38_⟩, ⟨q30_⟩⟩
  ·rw [if_neg c4] at H
   have c4b0 : decide (a0_0 < 1) = false := decide_eq_false c4
   clear c4
   (first | rw [c4b0] | (simp only [i64_w, i32_w]; rw [c4b0]) | skip)
   by_cases c6 : a0_0 > 7
   ·rw [if_pos c6] at H
    have c6b0 : decide (7 < a0_0) = true := decide_eq_true c6
    clear c6
    have H' := Aside0.mk H
    clear H
    have hcz7_0 : w3.cell? ⟨gb105, 0, none⟩ = some (.int .i64 a0_0) := (blk_cell BK105.out 0).trans rfl
    have hcz7_1 : w3.cell? ⟨gb105, 1, none⟩ = some (.string a0_1) := (blk_cell BK105.out 1).trans rfl
    have hcz7_2 : w3.cell? ⟨gb105, 2, none⟩ = some (.string a0_2) := (blk_cell BK105.out 2).trans rfl
    have hcz7_3 : w3.cell? ⟨gb105, 3, none⟩ = some (.int .i64 a0_3) := (blk_cell BK105.out 3).trans rfl
    have hcz7_4 : w3.cell? ⟨gb105, 4, none⟩ = some (.slice A0_4 l0_4.length c0_4) := (blk_cell BK105.out 4).trans rfl
    have hfz7_0 := blk_frozen BK105.out 0
    have hfz7_1 := blk_frozen BK105.out 1
    have hfz7_2 := blk_frozen BK105.out 2
    have hfz7_3 := blk_frozen BK105.out 3
    have hfz7_4 := blk_frozen BK105.out 4
    go_wp2
    repeat (go_quiet (fail); try go_wp2)
    go_meet
    case rel => exact ⟨_, (true), q4_, H', ⟨q64_⟩, ⟨q38_⟩, ⟨q30_⟩⟩
   ·rw [if_neg c6] at H
    have c6b0 : decide (7 < a0_0) = false := decide_eq_false c6
    clear c6
    replace H := Option.bind_eq_some_iff.mp H
    obtain ⟨t106, A80, H⟩ := H
    replace H : (stream_Good.j0 k (!t106) a0_0 a0_1 a0_2 a0_3 l0_4) = some r := H
    have A8 := Aside0.mk A80
    clear A80
    have H' := Aside0.mk H
    clear H
    have hcz9_0 : w3.cell? ⟨gb105, 0, none⟩ = some (.int .i64 a0_0) := (blk_cell BK105.out 0).trans rfl
    have hcz9_1 : w3.cell? ⟨gb105, 1, none⟩ = some (.string a0_1) := (blk_cell BK105.out 1).trans rfl
    have hcz9_2 : w3.cell? ⟨gb105, 2, none⟩ = some (.string a0_2) := (blk_cell BK105.out 2).trans rfl
    have hcz9_3 : w3.cell? ⟨gb105, 3, none⟩ = some (.int .i64 a0_3) := (blk_cell BK105.out 3).trans rfl
    have hcz9_4 : w3.cell? ⟨gb105, 4, none⟩ = some (.slice A0_4 l0_4.length c0_4) := (blk_cell BK105.out 4).trans rfl
    have hfz9_0 := blk_frozen BK105.out 0
    have hfz9_1 := blk_frozen BK105.out 1
    have hfz9_2 := blk_frozen BK105.out 2
    have hfz9_3 := blk_frozen BK105.out 3
    have hfz9_4 := blk_frozen BK105.out 4
    go_wp2_with (first | (go_at_call 28; (with_reducible refine (stream_path.calls a0_1 t106 _ A8.out).mono ?_); rintro e w10 ⟨rfl, hb⟩; have n0_ := Aside0.mk (blk_below (g := gb105) (o := .cells #[.int .i64 a0_0, .string a0_1, .string a0_2, .int .i64 a0_3, .slice A0_4 l0_4.length c0_4] 37 (0, 0)) q38_ hb); have n1_ := Aside0.mk (below_step q30_ hb); clear BK105; clear HB; have BK105 := n0_; have HB := n1_; clear n0_ n1_; (try clear hb); (try clear hb2); (try clear hk); (try clear hi)))
    repeat (go_quiet (first | (go_at_call 28; (with_reducible refine (stream_path.calls a0_1 t106 _ A8.out).mono ?_); rintro e w10 ⟨rfl, hb⟩; have n0_ := Aside0.mk (blk_below (g := gb105) (o := .cells #[.int .i64 a0_0, .string a0_1, .string a0_2, .int .i64 a0_3, .slice A0_4 l0_4.length c0_4] 37 (0, 0)) q38_ hb); have n1_ := Aside0.mk (below_step q30_ hb); clear BK105; clear HB; have BK105 := n0_; have HB := n1_; clear n0_ n1_; (try clear hb); (try clear hb2); (try clear hk); (try clear hi))); try go_wp2_with (first | (go_at_call 28; (with_reducible refine (stream_path.calls a0_1 t106 _ A8.out).mono ?_); rintro e w10 ⟨rfl, hb⟩; have n0_ := Aside0.mk (blk_below (g := gb105) (o := .cells #[.int .i64 a0_0, .string a0_1, .string a0_2, .int .i64 a0_3, .slice A0_4 l0_4.length c0_4] 37 (0, 0)) q38_ hb); have n1_ := Aside0.mk (below_step q30_ hb); clear BK105; clear HB; have BK105 := n0_; have HB := n1_; clear n0_ n1_; (try clear hb); (try clear hb2); (try clear hk); (try clear hi))))
    go_meet
    case rel => exact ⟨_, (!t106), q4_, H', ⟨q64_⟩, ⟨q38_⟩, ⟨q30_⟩⟩
 case rest =>
  clear HC2
  try clear c1
  try clear p2
  try clear c4
  try clear c4b0
  try clear c6
  try clear c6b0
  try clear hcz5_0
  try clear hcz5_1
  try clear hcz5_2
  try clear hcz5_3
  try clear hcz5_4
  try clear hcz7_0
  try clear hcz7_1
  try clear hcz7_2
  try clear hcz7_3
  try clear hcz7_4
  try clear hcz9_0
  try clear hcz9_1
  try clear hcz9_2
  try clear hcz9_3
  try clear hcz9_4
  try clear hfz5_0
  try clear hfz5_1
  try clear hfz5_2
  try clear hfz5_3
  try clear hfz5_4
  try clear hfz7_0
  try clear hfz7_1
  try clear hfz7_2
  try clear hfz7_3
  try clear hfz7_4
  try clear hfz9_0
  try clear hfz9_1
  try clear hfz9_2
  try clear hfz9_3
  try clear hfz9_4
  obtain ⟨kq, x19_1, rfl, HA, HJ1, BK105, HB⟩ := hcut
  cases kq with
  | zero => exact absurd (show none = some _ from HA.out) (by simp)
  | succ kj1 =>
   have H := HA.out
   clear HA
   simp only [stream_Good.j0] at H
   by_cases c11 : x19_1 = true
   ·subst c11
    have H1 : (some false) = some r := by rw [if_pos rfl] at H; exact H
    clear H
    have H := H1
    clear H1
    obtain rfl := Option.some.inj H
    go_wp2
    repeat (go_quiet (fail); try go_wp2)
    go_ret
    exact ⟨q10_, by repeat (first | (with_reducible first | exact HB.out | apply below_alloc | apply pw_below_drewN | apply below_drew1 | refine below_set ?_ GE105.out) | exact HB.out)⟩
   ·replace c11 := Bool.eq_false_iff.mpr c11
    subst c11
    have H1 : (if a0_0 = 3 then ((stream_path.f a0_2).bind fun t107 => (if t107 = true then (if a0_3 = 0 then (some ((l0_4.length : Int) == 0)) else (some false)) else (some false))) else (if a0_0 = 4 then (if (l0_4.length : Int) > 0 then (if a0_3 ≥ 0 then (if a0_2.toList = ([] : List UInt8) then (if a0_3 ≤ 8192 then (some (decide ((l0_4.length : Int) ≤ 128))) else (some false)) else (some false)) else (if a0_2.toList = ([] : List UInt8) then (some false) else (some false))) else (if a0_3 ≥ 0 then (if a0_2.toList = ([] : List UInt8) then (if a0_3 ≤ 8192 then (some false) else (some false)) else (some false)) else (if a0_2.toList = ([] : List UInt8) then (some false) else (some false)))) else (if a0_0 = 5 then (if a0_3 ≥ 0 then (if a0_2.toList = ([] : List UInt8) then (if a0_3 ≤ 8192 then (some ((l0_4.length : Int) == 0)) else (some false)) else (some false)) else (if a0_2.toList = ([] : List UInt8) then (some false) else (some false))) else (if a0_2.toList = ([] : List UInt8) then (if a0_3 = 0 then (some ((l0_4.length : Int) == 0)) else (some false)) else (some false))))) = some r := by rw [if_neg (show ¬ (false = true) by decide)] at H; exact H
    clear H
    have H := H1
    clear H1
    by_cases c12 : a0_0 = 3
    ·rw [if_pos c12] at H
     have c12b0 : (a0_0 == 3) = true := beq_iff_eq.mpr c12
     have c12b1 : (a0_0 != 3) = false := bne_eq_false_iff_eq.mpr c12
     clear c12
     replace H := Option.bind_eq_some_iff.mp H
     obtain ⟨t107, A130, H⟩ := H
     replace H : (if t107 = true then (if a0_3 = 0 then (some ((l0_4.length : Int) == 0)) else (some false)) else (some false)) = some r := H
     have A13 := Aside0.mk A130
     clear A130
     by_cases c14 : t107 = true
     ·subst c14
      have H1 : (if a0_3 = 0 then (some ((l0_4.length : Int) == 0)) else (some false)) = some r := by rw [if_pos rfl] at H; exact H
      clear H
      have H := H1
      clear H1
      by_cases c15 : a0_3 = 0
      ·rw [if_pos c15] at H
       have c15b0 : (a0_3 == 0) = true := beq_iff_eq.mpr c15
       have c15b1 : (a0_3 != 0) = false := bne_eq_false_iff_eq.mpr c15
       clear c15
       obtain rfl := Option.some.inj H
       have hcz16_0 : wc.cell? ⟨gb105, 0, none⟩ = some (.int .i64 a0_0) := (blk_cell BK105.out 0).trans rfl
       have hcz16_1 : wc.cell? ⟨gb105, 1, none⟩ = some (.string a0_1) := (blk_cell BK105.out 1).trans rfl
       have hcz16_2 : wc.cell? ⟨gb105, 2, none⟩ = some (.string a0_2) := (blk_cell BK105.out 2).trans rfl
       have hcz16_3 : wc.cell? ⟨gb105, 3, none⟩ = some (.int .i64 a0_3) := (blk_cell BK105.out 3).trans rfl
       have hcz16_4 : wc.cell? ⟨gb105, 4, none⟩ = some (.slice A0_4 l0_4.length c0_4) := (blk_cell BK105.out 4).trans rfl
       have hfz16_0 := blk_frozen BK105.out 0
       have hfz16_1 := blk_frozen BK105.out 1
       have hfz16_2 := blk_frozen BK105.out 2
       have hfz16_3 := blk_frozen BK105.out 3
       have hfz16_4 := blk_frozen BK105.out 4
       go_wp2_with (first | (go_at_call 28; (with_reducible refine (stream_path.calls a0_2 true _ A13.out).mono ?_); rintro e w17 ⟨rfl, hb⟩; have n0_ := Aside0.mk (blk_below (g := gb105) (o := .cells #[.int .i64 a0_0, .string a0_1, .string a0_2, .int .i64 a0_3, .slice A0_4 l0_4.length c0_4] 37 (0, 0)) q38_ hb); have n1_ := Aside0.mk (below_step q30_ hb); clear BK105; clear HB; have BK105 := n0_; have HB := n1_; clear n0_ n1_; (try clear hb); (try clear hb2); (try clear hk); (try clear hi)))
       repeat (go_quiet (first | (go_at_call 28; (with_reducible refine (stream_path.calls a0_2 true _ A13.out).mono ?_); rintro e w17 ⟨rfl, hb⟩; have n0_ := Aside0.mk (blk_below (g := gb105) (o := .cells #[.int .i64 a0_0, .string a0_1, .string a0_2, .int .i64 a0_3, .slice A0_4 l0_4.length c0_4] 37 (0, 0)) q38_ hb); have n1_ := Aside0.mk (below_step q30_ hb); clear BK105; clear HB; have BK105 := n0_; have HB := n1_; clear n0_ n1_; (try clear hb); (try clear hb2); (try clear hk); (try clear hi))); try go_wp2_with (first | (go_at_call 28; (with_reducible refine (stream_path.calls a0_2 true _ A13.out).mono ?_); rintro e w17 ⟨rfl, hb⟩; have n0_ := Aside0.mk (blk_below (g := gb105) (o := .cells #[.int .i64 a0_0, .string a0_1, .string a0_2, .int .i64 a0_3, .slice A0_4 l0_4.length c0_4] 37 (0, 0)) q38_ hb); have n1_ := Aside0.mk (below_step q30_ hb); clear BK105; clear HB; have BK105 := n0_; have HB := n1_; clear n0_ n1_; (try clear hb); (try clear hb2); (try clear hk); (try clear hi))))
       go_ret
       exact ⟨q10_, by repeat (first | (with_reducible first | exact HB.out | apply below_alloc | apply pw_below_drewN | apply below_drew1 | refine below_set ?_ GE105.out) | exact HB.out)⟩
      ·rw [if_neg c15] at H
       have c15b0 : (a0_3 == 0) = false := beq_eq_false_iff_ne.mpr c15
       have c15b1 : (a0_3 != 0) = true := bne_iff_ne.mpr c15
       obtain rfl := Option.some.inj H
       have hcz18_0 : wc.cell? ⟨gb105, 0, none⟩ = some (.int .i64 a0_0) := (blk_cell BK105.out 0).trans rfl
       have hcz18_1 : wc.cell? ⟨gb105, 1, none⟩ = some (.string a0_1) := (blk_cell BK105.out 1).trans rfl
       have hcz18_2 : wc.cell? ⟨gb105, 2, none⟩ = some (.string a0_2) := (blk_cell BK105.out 2).trans rfl
       have hcz18_3 : wc.cell? ⟨gb105, 3, none⟩ = some (.int .i64 a0_3) := (blk_cell BK105.out 3).trans rfl
       have hcz18_4 : wc.cell? ⟨gb105, 4, none⟩ = some (.slice A0_4 l0_4.length c0_4) := (blk_cell BK105.out 4).trans rfl
       have hfz18_0 := blk_frozen BK105.out 0
       have hfz18_1 := blk_frozen BK105.out 1
       have hfz18_2 := blk_frozen BK105.out 2
       have hfz18_3 := blk_frozen BK105.out 3
       have hfz18_4 := blk_frozen BK105.out 4
       go_wp2_with (first | (go_at_call 28; (with_reducible refine (stream_path.calls a0_2 true _ A13.out).mono ?_); rintro e w19 ⟨rfl, hb⟩; have n0_ := Aside0.mk (blk_below (g := gb105) (o := .cells #[.int .i64 a0_0, .string a0_1, .string a0_2, .int .i64 a0_3, .slice A0_4 l0_4.length c0_4] 37 (0, 0)) q38_ hb); have n1_ := Aside0.mk (below_step q30_ hb); clear BK105; clear HB; have BK105 := n0_; have HB := n1_; clear n0_ n1_; (try clear hb); (try clear hb2); (try clear hk); (try clear hi)))
       repeat (go_quiet (first | (go_at_call 28; (with_reducible refine (stream_path.calls a0_2 true _ A13.out).mono ?_); rintro e w19 ⟨rfl, hb⟩; have n0_ := Aside0.mk (blk_below (g := gb105) (o := .cells #[.int .i64 a0_0, .string a0_1, .string a0_2, .int .i64 a0_3, .slice A0_4 l0_4.length c0_4] 37 (0, 0)) q38_ hb); have n1_ := Aside0.mk (below_step q30_ hb); clear BK105; clear HB; have BK105 := n0_; have HB := n1_; clear n0_ n1_; (try clear hb); (try clear hb2); (try clear hk); (try clear hi))); try go_wp2_with (first | (go_at_call 28; (with_reducible refine (stream_path.calls a0_2 true _ A13.out).mono ?_); rintro e w19 ⟨rfl, hb⟩; have n0_ := Aside0.mk (blk_below (g := gb105) (o := .cells #[.int .i64 a0_0, .string a0_1, .string a0_2, .int .i64 a0_3, .slice A0_4 l0_4.length c0_4] 37 (0, 0)) q38_ hb); have n1_ := Aside0.mk (below_step q30_ hb); clear BK105; clear HB; have BK105 := n0_; have HB := n1_; clear n0_ n1_; (try clear hb); (try clear hb2); (try clear hk); (try clear hi))))
       go_ret
       exact ⟨q10_, by repeat (first | (with_reducible first | exact HB.out | apply below_alloc | apply pw_below_drewN | apply below_drew1 | refine below_set ?_ GE105.out) | exact HB.out)⟩
     ·replace c14 := Bool.eq_false_iff.mpr c14
      subst c14
      have H1 : (some false) = some r := by rw [if_neg (show ¬ (false = true) by decide)] at H; exact H
      clear H
      have H := H1
      clear H1
      obtain rfl := Option.some.inj H
      have hcz20_0 : wc.cell? ⟨gb105, 0, none⟩ = some (.int .i64 a0_0) := (blk_cell BK105.out 0).trans rfl
      have hcz20_1 : wc.cell? ⟨gb105, 1, none⟩ = some (.string a0_1) := (blk_cell BK105.out 1).trans rfl
      have hcz20_2 : wc.cell? ⟨gb105, 2, none⟩ = some (.string a0_2) := (blk_cell BK105.out 2).trans rfl
      have hcz20_3 : wc.cell? ⟨gb105, 3, none⟩ = some (.int .i64 a0_3) := (blk_cell BK105.out 3).trans rfl
      have hcz20_4 : wc.cell? ⟨gb105, 4, none⟩ = some (.slice A0_4 l0_4.length c0_4) := (blk_cell BK105.out 4).trans rfl
      have hfz20_0 := blk_frozen BK105.out 0
      have hfz20_1 := blk_frozen BK105.out 1
      have hfz20_2 := blk_frozen BK105.out 2
      have hfz20_3 := blk_frozen BK105.out 3
      have hfz20_4 := blk_frozen BK105.out 4
      go_wp2_with (first | (go_at_call 28; (with_reducible refine (stream_path.calls a0_2 false _ A13.out).mono ?_); rintro e w21 ⟨rfl, hb⟩; have n0_ := Aside0.mk (blk_below (g := gb105) (o := .cells #[.int .i64 a0_0, .string a0_1, .string a0_2, .int .i64 a0_3, .slice A0_4 l0_4.length c0_4] 37 (0, 0)) q38_ hb); have n1_ := Aside0.mk (below_step q30_ hb); clear BK105; clear HB; have BK105 := n0_; have HB := n1_; clear n0_ n1_; (try clear hb); (try clear hb2); (try clear hk); (try clear hi)))
      repeat (go_quiet (first | (go_at_call 28; (with_reducible refine (stream_path.calls a0_2 false _ A13.out).mono ?_); rintro e w21 ⟨rfl, hb⟩; have n0_ := Aside0.mk (blk_below (g := gb105) (o := .cells #[.int .i64 a0_0, .string a0_1, .string a0_2, .int .i64 a0_3, .slice A0_4 l0_4.length c0_4] 37 (0, 0)) q38_ hb); have n1_ := Aside0.mk (below_step q30_ hb); clear BK105; clear HB; have BK105 := n0_; have HB := n1_; clear n0_ n1_; (try clear hb); (try clear hb2); (try clear hk); (try clear hi))); try go_wp2_with (first | (go_at_call 28; (with_reducible refine (stream_path.calls a0_2 false _ A13.out).mono ?_); rintro e w21 ⟨rfl, hb⟩; have n0_ := Aside0.mk (blk_below (g := gb105) (o := .cells #[.int .i64 a0_0, .string a0_1, .string a0_2, .int .i64 a0_3, .slice A0_4 l0_4.length c0_4] 37 (0, 0)) q38_ hb); have n1_ := Aside0.mk (below_step q30_ hb); clear BK105; clear HB; have BK105 := n0_; have HB := n1_; clear n0_ n1_; (try clear hb); (try clear hb2); (try clear hk); (try clear hi))))
      go_ret
      exact ⟨q10_, by repeat (first | (with_reducible first | exact HB.out | apply below_alloc | apply pw_below_drewN | apply below_drew1 | refine below_set ?_ GE105.out) | exact HB.out)⟩
    ·rw [if_neg c12] at H
     have c12b0 : (a0_0 == 3) = false := beq_eq_false_iff_ne.mpr c12
     have c12b1 : (a0_0 != 3) = true := bne_iff_ne.mpr c12
     by_cases c22 : a0_0 = 4
     ·rw [if_pos c22] at H
      have c22b0 : (a0_0 == 4) = true := beq_iff_eq.mpr c22
      have c22b1 : (a0_0 != 4) = false := bne_eq_false_iff_eq.mpr c22
      clear c22
      by_cases c23 : (l0_4.length : Int) > 0
      ·rw [if_pos c23] at H
       have c23b0 : decide (0 < (l0_4.length : Int)) = true := decide_eq_true c23
       have c23b1 : decide (0 < l0_4.length) = true := decide_eq_true (by omega)
       clear c23
       by_cases c24 : a0_3 ≥ 0
       ·rw [if_pos c24] at H
        have c24b0 : decide (0 ≤ a0_3) = true := decide_eq_true c24
        clear c24
        by_cases c25 : a0_2.toList = ([] : List UInt8)
        ·rw [if_pos c25] at H
         have c25b0 : (a0_2.toList == ([] : List UInt8)) = true := beq_iff_eq.mpr c25
         have c25b1 : (a0_2.toList != ([] : List UInt8)) = false := bne_eq_false_iff_eq.mpr c25
         clear c25
         by_cases c26 : a0_3 ≤ 8192
         ·rw [if_pos c26] at H
          have c26b0 : decide (a0_3 ≤ 8192) = true := decide_eq_true c26
          clear c26
          obtain rfl := Option.some.inj H
          have hcz27_0 : wc.cell? ⟨gb105, 0, none⟩ = some (.int .i64 a0_0) := (blk_cell BK105.out 0).trans rfl
          have hcz27_1 : wc.cell? ⟨gb105, 1, none⟩ = some (.string a0_1) := (blk_cell BK105.out 1).trans rfl
          have hcz27_2 : wc.cell? ⟨gb105, 2, none⟩ = some (.string a0_2) := (blk_cell BK105.out 2).trans rfl
          have hcz27_3 : wc.cell? ⟨gb105, 3, none⟩ = some (.int .i64 a0_3) := (blk_cell BK105.out 3).trans rfl
          have hcz27_4 : wc.cell? ⟨gb105, 4, none⟩ = some (.slice A0_4 l0_4.length c0_4) := (blk_cell BK105.out 4).trans rfl
          have hfz27_0 := blk_frozen BK105.out 0
          have hfz27_1 := blk_frozen BK105.out 1
          have hfz27_2 := blk_frozen BK105.out 2
          have hfz27_3 := blk_frozen BK105.out 3
          have hfz27_4 := blk_frozen BK105.out 4
          go_wp2
          repeat (go_quiet (fail); try go_wp2)
          go_ret
          exact ⟨q10_, by repeat (first | (with_reducible first | exact HB.out | apply below_alloc | apply pw_below_drewN | apply below_drew1 | refine below_set ?_ GE105.out) | exact HB.out)⟩
         ·rw [if_neg c26] at H
          have c26b0 : decide (a0_3 ≤ 8192) = false := decide_eq_false c26
          clear c26
          obtain rfl := Option.some.inj H
          have hcz28_0 : wc.cell? ⟨gb105, 0, none⟩ = some (.int .i64 a0_0) := (blk_cell BK105.out 0).trans rfl
          have hcz28_1 : wc.cell? ⟨gb105, 1, none⟩ = some (.string a0_1) := (blk_cell BK105.out 1).trans rfl
          have hcz28_2 : wc.cell? ⟨gb105, 2, none⟩ = some (.string a0_2) := (blk_cell BK105.out 2).trans rfl
          have hcz28_3 : wc.cell? ⟨gb105, 3, none⟩ = some (.int .i64 a0_3) := (blk_cell BK105.out 3).trans rfl
          have hcz28_4 : wc.cell? ⟨gb105, 4, none⟩ = some (.slice A0_4 l0_4.length c0_4) := (blk_cell BK105.out 4).trans rfl
          have hfz28_0 := blk_frozen BK105.out 0
          have hfz28_1 := blk_frozen BK105.out 1
          have hfz28_2 := blk_frozen BK105.out 2
          have hfz28_3 := blk_frozen BK105.out 3
          have hfz28_4 := blk_frozen BK105.out 4
          go_wp2
          repeat (go_quiet (fail); try go_wp2)
          go_ret
          exact ⟨q10_, by repeat (first | (with_reducible first | exact HB.out | apply below_alloc | apply pw_below_drewN | apply below_drew1 | refine below_set ?_ GE105.out) | exact HB.out)⟩
        ·rw [if_neg c25] at H
         have c25b0 : (a0_2.toList == ([] : List UInt8)) = false := beq_eq_false_iff_ne.mpr c25
         have c25b1 : (a0_2.toList != ([] : List UInt8)) = true := bne_iff_ne.mpr c25
         obtain rfl := Option.some.inj H
         have hcz29_0 : wc.cell? ⟨gb105, 0, none⟩ = some (.int .i64 a0_0) := (blk_cell BK105.out 0).trans rfl
         have hcz29_1 : wc.cell? ⟨gb105, 1, none⟩ = some (.string a0_1) := (blk_cell BK105.out 1).trans rfl
         have hcz29_2 : wc.cell? ⟨gb105, 2, none⟩ = some (.string a0_2) := (blk_cell BK105.out 2).trans rfl
         have hcz29_3 : wc.cell? ⟨gb105, 3, none⟩ = some (.int .i64 a0_3) := (blk_cell BK105.out 3).trans rfl
         have hcz29_4 : wc.cell? ⟨gb105, 4, none⟩ = some (.slice A0_4 l0_4.length c0_4) := (blk_cell BK105.out 4).trans rfl
         have hfz29_0 := blk_frozen BK105.out 0
         have hfz29_1 := blk_frozen BK105.out 1
         have hfz29_2 := blk_frozen BK105.out 2
         have hfz29_3 := blk_frozen BK105.out 3
         have hfz29_4 := blk_frozen BK105.out 4
         go_wp2
         repeat (go_quiet (fail); try go_wp2)
         go_ret
         exact ⟨q10_, by repeat (first | (with_reducible first | exact HB.out | apply below_alloc | apply pw_below_drewN | apply below_drew1 | refine below_set ?_ GE105.out) | exact HB.out)⟩
       ·rw [if_neg c24] at H
        have c24b0 : decide (0 ≤ a0_3) = false := decide_eq_false c24
        clear c24
        by_cases c30 : a0_2.toList = ([] : List UInt8)
        ·rw [if_pos c30] at H
         have c30b0 : (a0_2.toList == ([] : List UInt8)) = true := beq_iff_eq.mpr c30
         have c30b1 : (a0_2.toList != ([] : List UInt8)) = false := bne_eq_false_iff_eq.mpr c30
         clear c30
         obtain rfl := Option.some.inj H
         have hcz31_0 : wc.cell? ⟨gb105, 0, none⟩ = some (.int .i64 a0_0) := (blk_cell BK105.out 0).trans rfl
         have hcz31_1 : wc.cell? ⟨gb105, 1, none⟩ = some (.string a0_1) := (blk_cell BK105.out 1).trans rfl
         have hcz31_2 : wc.cell? ⟨gb105, 2, none⟩ = some (.string a0_2) := (blk_cell BK105.out 2).trans rfl
         have hcz31_3 : wc.cell? ⟨gb105, 3, none⟩ = some (.int .i64 a0_3) := (blk_cell BK105.out 3).trans rfl
         have hcz31_4 : wc.cell? ⟨gb105, 4, none⟩ = some (.slice A0_4 l0_4.length c0_4) := (blk_cell BK105.out 4).trans rfl
         have hfz31_0 := blk_frozen BK105.out 0
         have hfz31_1 := blk_frozen BK105.out 1
         have hfz31_2 := blk_frozen BK105.out 2
         have hfz31_3 := blk_frozen BK105.out 3
         have hfz31_4 := blk_frozen BK105.out 4
         go_wp2
         repeat (go_quiet (fail); try go_wp2)
         go_ret
         exact ⟨q10_, by repeat (first | (with_reducible first | exact HB.out | apply below_alloc | apply pw_below_drewN | apply below_drew1 | refine below_set ?_ GE105.out) | exact HB.out)⟩
        ·rw [if_neg c30] at H
         have c30b0 : (a0_2.toList == ([] : List UInt8)) = false := beq_eq_false_iff_ne.mpr c30
         have c30b1 : (a0_2.toList != ([] : List UInt8)) = true := bne_iff_ne.mpr c30
         obtain rfl := Option.some.inj H
         have hcz32_0 : wc.cell? ⟨gb105, 0, none⟩ = some (.int .i64 a0_0) := (blk_cell BK105.out 0).trans rfl
         have hcz32_1 : wc.cell? ⟨gb105, 1, none⟩ = some (.string a0_1) := (blk_cell BK105.out 1).trans rfl
         have hcz32_2 : wc.cell? ⟨gb105, 2, none⟩ = some (.string a0_2) := (blk_cell BK105.out 2).trans rfl
         have hcz32_3 : wc.cell? ⟨gb105, 3, none⟩ = some (.int .i64 a0_3) := (blk_cell BK105.out 3).trans rfl
         have hcz32_4 : wc.cell? ⟨gb105, 4, none⟩ = some (.slice A0_4 l0_4.length c0_4) := (blk_cell BK105.out 4).trans rfl
         have hfz32_0 := blk_frozen BK105.out 0
         have hfz32_1 := blk_frozen BK105.out 1
         have hfz32_2 := blk_frozen BK105.out 2
         have hfz32_3 := blk_frozen BK105.out 3
         have hfz32_4 := blk_frozen BK105.out 4
         go_wp2
         repeat (go_quiet (fail); try go_wp2)
         go_ret
         exact ⟨q10_, by repeat (first | (with_reducible first | exact HB.out | apply below_alloc | apply pw_below_drewN | apply below_drew1 | refine below_set ?_ GE105.out) | exact HB.out)⟩
      ·rw [if_neg c23] at H
       have c23b0 : decide (0 < (l0_4.length : Int)) = false := decide_eq_false c23
       have c23b1 : decide (0 < l0_4.length) = false := decide_eq_false (by omega)
       clear c23
       by_cases c33 : a0_3 ≥ 0
       ·rw [if_pos c33] at H
        have c33b0 : decide (0 ≤ a0_3) = true := decide_eq_true c33
        clear c33
        by_cases c34 : a0_2.toList = ([] : List UInt8)
        ·rw [if_pos c34] at H
         have c34b0 : (a0_2.toList == ([] : List UInt8)) = true := beq_iff_eq.mpr c34
         have c34b1 : (a0_2.toList != ([] : List UInt8)) = false := bne_eq_false_iff_eq.mpr c34
         clear c34
         by_cases c35 : a0_3 ≤ 8192
         ·rw [if_pos c35] at H
          have c35b0 : decide (a0_3 ≤ 8192) = true := decide_eq_true c35
          clear c35
          obtain rfl := Option.some.inj H
          have hcz36_0 : wc.cell? ⟨gb105, 0, none⟩ = some (.int .i64 a0_0) := (blk_cell BK105.out 0).trans rfl
          have hcz36_1 : wc.cell? ⟨gb105, 1, none⟩ = some (.string a0_1) := (blk_cell BK105.out 1).trans rfl
          have hcz36_2 : wc.cell? ⟨gb105, 2, none⟩ = some (.string a0_2) := (blk_cell BK105.out 2).trans rfl
          have hcz36_3 : wc.cell? ⟨gb105, 3, none⟩ = some (.int .i64 a0_3) := (blk_cell BK105.out 3).trans rfl
          have hcz36_4 : wc.cell? ⟨gb105, 4, none⟩ = some (.slice A0_4 l0_4.length c0_4) := (blk_cell BK105.out 4).trans rfl
          have hfz36_0 := blk_frozen BK105.out 0
          have hfz36_1 := blk_frozen BK105.out 1
          have hfz36_2 := blk_frozen BK105.out 2
          have hfz36_3 := blk_frozen BK105.out 3
          have hfz36_4 := blk_frozen BK105.out 4
          go_wp2
          repeat (go_quiet (fail); try go_wp2)
          go_ret
          exact ⟨q10_, by repeat (first | (with_reducible first | exact HB.out | apply below_alloc | apply pw_below_drewN | apply below_drew1 | refine below_set ?_ GE105.out) | exact HB.out)⟩
         ·rw [if_neg c35] at H
          have c35b0 : decide (a0_3 ≤ 8192) = false := decide_eq_false c35
          clear c35
          obtain rfl := Option.some.inj H
          have hcz37_0 : wc.cell? ⟨gb105, 0, none⟩ = some (.int .i64 a0_0) := (blk_cell BK105.out 0).trans rfl
          have hcz37_1 : wc.cell? ⟨gb105, 1, none⟩ = some (.string a0_1) := (blk_cell BK105.out 1).trans rfl
          have hcz37_2 : wc.cell? ⟨gb105, 2, none⟩ = some (.string a0_2) := (blk_cell BK105.out 2).trans rfl
          have hcz37_3 : wc.cell? ⟨gb105, 3, none⟩ = some (.int .i64 a0_3) := (blk_cell BK105.out 3).trans rfl
          have hcz37_4 : wc.cell? ⟨gb105, 4, none⟩ = some (.slice A0_4 l0_4.length c0_4) := (blk_cell BK105.out 4).trans rfl
          have hfz37_0 := blk_frozen BK105.out 0
          have hfz37_1 := blk_frozen BK105.out 1
          have hfz37_2 := blk_frozen BK105.out 2
          have hfz37_3 := blk_frozen BK105.out 3
          have hfz37_4 := blk_frozen BK105.out 4
          go_wp2
          repeat (go_quiet (fail); try go_wp2)
          go_ret
          exact ⟨q10_, by repeat (first | (with_reducible first | exact HB.out | apply below_alloc | apply pw_below_drewN | apply below_drew1 | refine below_set ?_ GE105.out) | exact HB.out)⟩
        ·rw [if_neg c34] at H
         have c34b0 : (a0_2.toList == ([] : List UInt8)) = false := beq_eq_false_iff_ne.mpr c34
         have c34b1 : (a0_2.toList != ([] : List UInt8)) = true := bne_iff_ne.mpr c34
         obtain rfl := Option.some.inj H
         have hcz38_0 : wc.cell? ⟨gb105, 0, none⟩ = some (.int .i64 a0_0) := (blk_cell BK105.out 0).trans rfl
         have hcz38_1 : wc.cell? ⟨gb105, 1, none⟩ = some (.string a0_1) := (blk_cell BK105.out 1).trans rfl
         have hcz38_2 : wc.cell? ⟨gb105, 2, none⟩ = some (.string a0_2) := (blk_cell BK105.out 2).trans rfl
         have hcz38_3 : wc.cell? ⟨gb105, 3, none⟩ = some (.int .i64 a0_3) := (blk_cell BK105.out 3).trans rfl
         have hcz38_4 : wc.cell? ⟨gb105, 4, none⟩ = some (.slice A0_4 l0_4.length c0_4) := (blk_cell BK105.out 4).trans rfl
         have hfz38_0 := blk_frozen BK105.out 0
         have hfz38_1 := blk_frozen BK105.out 1
         have hfz38_2 := blk_frozen BK105.out 2
         have hfz38_3 := blk_frozen BK105.out 3
         have hfz38_4 := blk_frozen BK105.out 4
         go_wp2
         repeat (go_quiet (fail); try go_wp2)
         go_ret
         exact ⟨q10_, by repeat (first | (with_reducible first | exact HB.out | apply below_alloc | apply pw_below_drewN | apply below_drew1 | refine below_set ?_ GE105.out) | exact HB.out)⟩
       ·rw [if_neg c33] at H
        have c33b0 : decide (0 ≤ a0_3) = false := decide_eq_false c33
        clear c33
        by_cases c39 : a0_2.toList = ([] : List UInt8)
        ·rw [if_pos c39] at H
         have c39b0 : (a0_2.toList == ([] : List UInt8)) = true := beq_iff_eq.mpr c39
         have c39b1 : (a0_2.toList != ([] : List UInt8)) = false := bne_eq_false_iff_eq.mpr c39
         clear c39
         obtain rfl := Option.some.inj H
         have hcz40_0 : wc.cell? ⟨gb105, 0, none⟩ = some (.int .i64 a0_0) := (blk_cell BK105.out 0).trans rfl
         have hcz40_1 : wc.cell? ⟨gb105, 1, none⟩ = some (.string a0_1) := (blk_cell BK105.out 1).trans rfl
         have hcz40_2 : wc.cell? ⟨gb105, 2, none⟩ = some (.string a0_2) := (blk_cell BK105.out 2).trans rfl
         have hcz40_3 : wc.cell? ⟨gb105, 3, none⟩ = some (.int .i64 a0_3) := (blk_cell BK105.out 3).trans rfl
         have hcz40_4 : wc.cell? ⟨gb105, 4, none⟩ = some (.slice A0_4 l0_4.length c0_4) := (blk_cell BK105.out 4).trans rfl
         have hfz40_0 := blk_frozen BK105.out 0
         have hfz40_1 := blk_frozen BK105.out 1
         have hfz40_2 := blk_frozen BK105.out 2
         have hfz40_3 := blk_frozen BK105.out 3
         have hfz40_4 := blk_frozen BK105.out 4
         go_wp2
         repeat (go_quiet (fail); try go_wp2)
         go_ret
         exact ⟨q10_, by repeat (first | (with_reducible first | exact HB.out | apply below_alloc | apply pw_below_drewN | apply below_drew1 | refine below_set ?_ GE105.out) | exact HB.out)⟩
        ·rw [if_neg c39] at H
         have c39b0 : (a0_2.toList == ([] : List UInt8)) = false := beq_eq_false_iff_ne.mpr c39
         have c39b1 : (a0_2.toList != ([] : List UInt8)) = true := bne_iff_ne.mpr c39
         obtain rfl := Option.some.inj H
         have hcz41_0 : wc.cell? ⟨gb105, 0, none⟩ = some (.int .i64 a0_0) := (blk_cell BK105.out 0).trans rfl
         have hcz41_1 : wc.cell? ⟨gb105, 1, none⟩ = some (.string a0_1) := (blk_cell BK105.out 1).trans rfl
         have hcz41_2 : wc.cell? ⟨gb105, 2, none⟩ = some (.string a0_2) := (blk_cell BK105.out 2).trans rfl
         have hcz41_3 : wc.cell? ⟨gb105, 3, none⟩ = some (.int .i64 a0_3) := (blk_cell BK105.out 3).trans rfl
         have hcz41_4 : wc.cell? ⟨gb105, 4, none⟩ = some (.slice A0_4 l0_4.length c0_4) := (blk_cell BK105.out 4).trans rfl
         have hfz41_0 := blk_frozen BK105.out 0
         have hfz41_1 := blk_frozen BK105.out 1
         have hfz41_2 := blk_frozen BK105.out 2
         have hfz41_3 := blk_frozen BK105.out 3
         have hfz41_4 := blk_frozen BK105.out 4
         go_wp2
         repeat (go_quiet (fail); try go_wp2)
         go_ret
         exact ⟨q10_, by repeat (first | (with_reducible first | exact HB.out | apply below_alloc | apply pw_below_drewN | apply below_drew1 | refine below_set ?_ GE105.out) | exact HB.out)⟩
     ·rw [if_neg c22] at H
      have c22b0 : (a0_0 == 4) = false := beq_eq_false_iff_ne.mpr c22
      have c22b1 : (a0_0 != 4) = true := bne_iff_ne.mpr c22
      by_cases c42 : a0_0 = 5
      ·rw [if_pos c42] at H
       have c42b0 : (a0_0 == 5) = true := beq_iff_eq.mpr c42
       have c42b1 : (a0_0 != 5) = false := bne_eq_false_iff_eq.mpr c42
       clear c42
       by_cases c43 : a0_3 ≥ 0
       ·rw [if_pos c43] at H
        have c43b0 : decide (0 ≤ a0_3) = true := decide_eq_true c43
        clear c43
        by_cases c44 : a0_2.toList = ([] : List UInt8)
        ·rw [if_pos c44] at H
         have c44b0 : (a0_2.toList == ([] : List UInt8)) = true := beq_iff_eq.mpr c44
         have c44b1 : (a0_2.toList != ([] : List UInt8)) = false := bne_eq_false_iff_eq.mpr c44
         clear c44
         by_cases c45 : a0_3 ≤ 8192
         ·rw [if_pos c45] at H
          have c45b0 : decide (a0_3 ≤ 8192) = true := decide_eq_true c45
          clear c45
          obtain rfl := Option.some.inj H
          have hcz46_0 : wc.cell? ⟨gb105, 0, none⟩ = some (.int .i64 a0_0) := (blk_cell BK105.out 0).trans rfl
          have hcz46_1 : wc.cell? ⟨gb105, 1, none⟩ = some (.string a0_1) := (blk_cell BK105.out 1).trans rfl
          have hcz46_2 : wc.cell? ⟨gb105, 2, none⟩ = some (.string a0_2) := (blk_cell BK105.out 2).trans rfl
          have hcz46_3 : wc.cell? ⟨gb105, 3, none⟩ = some (.int .i64 a0_3) := (blk_cell BK105.out 3).trans rfl
          have hcz46_4 : wc.cell? ⟨gb105, 4, none⟩ = some (.slice A0_4 l0_4.length c0_4) := (blk_cell BK105.out 4).trans rfl
          have hfz46_0 := blk_frozen BK105.out 0
          have hfz46_1 := blk_frozen BK105.out 1
          have hfz46_2 := blk_frozen BK105.out 2
          have hfz46_3 := blk_frozen BK105.out 3
          have hfz46_4 := blk_frozen BK105.out 4
          go_wp2
          repeat (go_quiet (fail); try go_wp2)
          go_ret
          exact ⟨q10_, by repeat (first | (with_reducible first | exact HB.out | apply below_alloc | apply pw_below_drewN | apply below_drew1 | refine below_set ?_ GE105.out) | exact HB.out)⟩
         ·rw [if_neg c45] at H
          have c45b0 : decide (a0_3 ≤ 8192) = false := decide_eq_false c45
          clear c45
          obtain rfl := Option.some.inj H
          have hcz47_0 : wc.cell? ⟨gb105, 0, none⟩ = some (.int .i64 a0_0) := (blk_cell BK105.out 0).trans rfl
          have hcz47_1 : wc.cell? ⟨gb105, 1, none⟩ = some (.string a0_1) := (blk_cell BK105.out 1).trans rfl
          have hcz47_2 : wc.cell? ⟨gb105, 2, none⟩ = some (.string a0_2) := (blk_cell BK105.out 2).trans rfl
          have hcz47_3 : wc.cell? ⟨gb105, 3, none⟩ = some (.int .i64 a0_3) := (blk_cell BK105.out 3).trans rfl
          have hcz47_4 : wc.cell? ⟨gb105, 4, none⟩ = some (.slice A0_4 l0_4.length c0_4) := (blk_cell BK105.out 4).trans rfl
          have hfz47_0 := blk_frozen BK105.out 0
          have hfz47_1 := blk_frozen BK105.out 1
          have hfz47_2 := blk_frozen BK105.out 2
          have hfz47_3 := blk_frozen BK105.out 3
          have hfz47_4 := blk_frozen BK105.out 4
          go_wp2
          repeat (go_quiet (fail); try go_wp2)
          go_ret
          exact ⟨q10_, by repeat (first | (with_reducible first | exact HB.out | apply below_alloc | apply pw_below_drewN | apply below_drew1 | refine below_set ?_ GE105.out) | exact HB.out)⟩
        ·rw [if_neg c44] at H
         have c44b0 : (a0_2.toList == ([] : List UInt8)) = false := beq_eq_false_iff_ne.mpr c44
         have c44b1 : (a0_2.toList != ([] : List UInt8)) = true := bne_iff_ne.mpr c44
         obtain rfl := Option.some.inj H
         have hcz48_0 : wc.cell? ⟨gb105, 0, none⟩ = some (.int .i64 a0_0) := (blk_cell BK105.out 0).trans rfl
         have hcz48_1 : wc.cell? ⟨gb105, 1, none⟩ = some (.string a0_1) := (blk_cell BK105.out 1).trans rfl
         have hcz48_2 : wc.cell? ⟨gb105, 2, none⟩ = some (.string a0_2) := (blk_cell BK105.out 2).trans rfl
         have hcz48_3 : wc.cell? ⟨gb105, 3, none⟩ = some (.int .i64 a0_3) := (blk_cell BK105.out 3).trans rfl
         have hcz48_4 : wc.cell? ⟨gb105, 4, none⟩ = some (.slice A0_4 l0_4.length c0_4) := (blk_cell BK105.out 4).trans rfl
         have hfz48_0 := blk_frozen BK105.out 0
         have hfz48_1 := blk_frozen BK105.out 1
         have hfz48_2 := blk_frozen BK105.out 2
         have hfz48_3 := blk_frozen BK105.out 3
         have hfz48_4 := blk_frozen BK105.out 4
         go_wp2
         repeat (go_quiet (fail); try go_wp2)
         go_ret
         exact ⟨q10_, by repeat (first | (with_reducible first | exact HB.out | apply below_alloc | apply pw_below_drewN | apply below_drew1 | refine below_set ?_ GE105.out) | exact HB.out)⟩
       ·rw [if_neg c43] at H
        have c43b0 : decide (0 ≤ a0_3) = false := decide_eq_false c43
        clear c43
        by_cases c49 : a0_2.toList = ([] : List UInt8)
        ·rw [if_pos c49] at H
         have c49b0 : (a0_2.toList == ([] : List UInt8)) = true := beq_iff_eq.mpr c49
         have c49b1 : (a0_2.toList != ([] : List UInt8)) = false := bne_eq_false_iff_eq.mpr c49
         clear c49
         obtain rfl := Option.some.inj H
         have hcz50_0 : wc.cell? ⟨gb105, 0, none⟩ = some (.int .i64 a0_0) := (blk_cell BK105.out 0).trans rfl
         have hcz50_1 : wc.cell? ⟨gb105, 1, none⟩ = some (.string a0_1) := (blk_cell BK105.out 1).trans rfl
         have hcz50_2 : wc.cell? ⟨gb105, 2, none⟩ = some (.string a0_2) := (blk_cell BK105.out 2).trans rfl
         have hcz50_3 : wc.cell? ⟨gb105, 3, none⟩ = some (.int .i64 a0_3) := (blk_cell BK105.out 3).trans rfl
         have hcz50_4 : wc.cell? ⟨gb105, 4, none⟩ = some (.slice A0_4 l0_4.length c0_4) := (blk_cell BK105.out 4).trans rfl
         have hfz50_0 := blk_frozen BK105.out 0
         have hfz50_1 := blk_frozen BK105.out 1
         have hfz50_2 := blk_frozen BK105.out 2
         have hfz50_3 := blk_frozen BK105.out 3
         have hfz50_4 := blk_frozen BK105.out 4
         go_wp2
         repeat (go_quiet (fail); try go_wp2)
         go_ret
         exact ⟨q10_, by repeat (first | (with_reducible first | exact HB.out | apply below_alloc | apply pw_below_drewN | apply below_drew1 | refine below_set ?_ GE105.out) | exact HB.out)⟩
        ·rw [if_neg c49] at H
         have c49b0 : (a0_2.toList == ([] : List UInt8)) = false := beq_eq_false_iff_ne.mpr c49
         have c49b1 : (a0_2.toList != ([] : List UInt8)) = true := bne_iff_ne.mpr c49
         obtain rfl := Option.some.inj H
         have hcz51_0 : wc.cell? ⟨gb105, 0, none⟩ = some (.int .i64 a0_0) := (blk_cell BK105.out 0).trans rfl
         have hcz51_1 : wc.cell? ⟨gb105, 1, none⟩ = some (.string a0_1) := (blk_cell BK105.out 1).trans rfl
         have hcz51_2 : wc.cell? ⟨gb105, 2, none⟩ = some (.string a0_2) := (blk_cell BK105.out 2).trans rfl
         have hcz51_3 : wc.cell? ⟨gb105, 3, none⟩ = some (.int .i64 a0_3) := (blk_cell BK105.out 3).trans rfl
         have hcz51_4 : wc.cell? ⟨gb105, 4, none⟩ = some (.slice A0_4 l0_4.length c0_4) := (blk_cell BK105.out 4).trans rfl
         have hfz51_0 := blk_frozen BK105.out 0
         have hfz51_1 := blk_frozen BK105.out 1
         have hfz51_2 := blk_frozen BK105.out 2
         have hfz51_3 := blk_frozen BK105.out 3
         have hfz51_4 := blk_frozen BK105.out 4
         go_wp2
         repeat (go_quiet (fail); try go_wp2)
         go_ret
         exact ⟨q10_, by repeat (first | (with_reducible first | exact HB.out | apply below_alloc | apply pw_below_drewN | apply below_drew1 | refine below_set ?_ GE105.out) | exact HB.out)⟩
      ·rw [if_neg c42] at H
       have c42b0 : (a0_0 == 5) = false := beq_eq_false_iff_ne.mpr c42
       have c42b1 : (a0_0 != 5) = true := bne_iff_ne.mpr c42
       by_cases c52 : a0_2.toList = ([] : List UInt8)
       ·rw [if_pos c52] at H
        have c52b0 : (a0_2.toList == ([] : List UInt8)) = true := beq_iff_eq.mpr c52
        have c52b1 : (a0_2.toList != ([] : List UInt8)) = false := bne_eq_false_iff_eq.mpr c52
        clear c52
        by_cases c53 : a0_3 = 0
        ·rw [if_pos c53] at H
         have c53b0 : (a0_3 == 0) = true := beq_iff_eq.mpr c53
         have c53b1 : (a0_3 != 0) = false := bne_eq_false_iff_eq.mpr c53
         clear c53
         obtain rfl := Option.some.inj H
         have hcz54_0 : wc.cell? ⟨gb105, 0, none⟩ = some (.int .i64 a0_0) := (blk_cell BK105.out 0).trans rfl
         have hcz54_1 : wc.cell? ⟨gb105, 1, none⟩ = some (.string a0_1) := (blk_cell BK105.out 1).trans rfl
         have hcz54_2 : wc.cell? ⟨gb105, 2, none⟩ = some (.string a0_2) := (blk_cell BK105.out 2).trans rfl
         have hcz54_3 : wc.cell? ⟨gb105, 3, none⟩ = some (.int .i64 a0_3) := (blk_cell BK105.out 3).trans rfl
         have hcz54_4 : wc.cell? ⟨gb105, 4, none⟩ = some (.slice A0_4 l0_4.length c0_4) := (blk_cell BK105.out 4).trans rfl
         have hfz54_0 := blk_frozen BK105.out 0
         have hfz54_1 := blk_frozen BK105.out 1
         have hfz54_2 := blk_frozen BK105.out 2
         have hfz54_3 := blk_frozen BK105.out 3
         have hfz54_4 := blk_frozen BK105.out 4
         go_wp2
         repeat (go_quiet (fail); try go_wp2)
         go_ret
         exact ⟨q10_, by repeat (first | (with_reducible first | exact HB.out | apply below_alloc | apply pw_below_drewN | apply below_drew1 | refine below_set ?_ GE105.out) | exact HB.out)⟩
        ·rw [if_neg c53] at H
         have c53b0 : (a0_3 == 0) = false := beq_eq_false_iff_ne.mpr c53
         have c53b1 : (a0_3 != 0) = true := bne_iff_ne.mpr c53
         obtain rfl := Option.some.inj H
         have hcz55_0 : wc.cell? ⟨gb105, 0, none⟩ = some (.int .i64 a0_0) := (blk_cell BK105.out 0).trans rfl
         have hcz55_1 : wc.cell? ⟨gb105, 1, none⟩ = some (.string a0_1) := (blk_cell BK105.out 1).trans rfl
         have hcz55_2 : wc.cell? ⟨gb105, 2, none⟩ = some (.string a0_2) := (blk_cell BK105.out 2).trans rfl
         have hcz55_3 : wc.cell? ⟨gb105, 3, none⟩ = some (.int .i64 a0_3) := (blk_cell BK105.out 3).trans rfl
         have hcz55_4 : wc.cell? ⟨gb105, 4, none⟩ = some (.slice A0_4 l0_4.length c0_4) := (blk_cell BK105.out 4).trans rfl
         have hfz55_0 := blk_frozen BK105.out 0
         have hfz55_1 := blk_frozen BK105.out 1
         have hfz55_2 := blk_frozen BK105.out 2
         have hfz55_3 := blk_frozen BK105.out 3
         have hfz55_4 := blk_frozen BK105.out 4
         go_wp2
         repeat (go_quiet (fail); try go_wp2)
         go_ret
         exact ⟨q10_, by repeat (first | (with_reducible first | exact HB.out | apply below_alloc | apply pw_below_drewN | apply below_drew1 | refine below_set ?_ GE105.out) | exact HB.out)⟩
       ·rw [if_neg c52] at H
        have c52b0 : (a0_2.toList == ([] : List UInt8)) = false := beq_eq_false_iff_ne.mpr c52
        have c52b1 : (a0_2.toList != ([] : List UInt8)) = true := bne_iff_ne.mpr c52
        obtain rfl := Option.some.inj H
        have hcz56_0 : wc.cell? ⟨gb105, 0, none⟩ = some (.int .i64 a0_0) := (blk_cell BK105.out 0).trans rfl
        have hcz56_1 : wc.cell? ⟨gb105, 1, none⟩ = some (.string a0_1) := (blk_cell BK105.out 1).trans rfl
        have hcz56_2 : wc.cell? ⟨gb105, 2, none⟩ = some (.string a0_2) := (blk_cell BK105.out 2).trans rfl
        have hcz56_3 : wc.cell? ⟨gb105, 3, none⟩ = some (.int .i64 a0_3) := (blk_cell BK105.out 3).trans rfl
        have hcz56_4 : wc.cell? ⟨gb105, 4, none⟩ = some (.slice A0_4 l0_4.length c0_4) := (blk_cell BK105.out 4).trans rfl
        have hfz56_0 := blk_frozen BK105.out 0
        have hfz56_1 := blk_frozen BK105.out 1
        have hfz56_2 := blk_frozen BK105.out 2
        have hfz56_3 := blk_frozen BK105.out 3
        have hfz56_4 := blk_frozen BK105.out 4
        go_wp2
        repeat (go_quiet (fail); try go_wp2)
        go_ret
        exact ⟨q10_, by repeat (first | (with_reducible first | exact HB.out | apply below_alloc | apply pw_below_drewN | apply below_drew1 | refine below_set ?_ GE105.out) | exact HB.out)⟩

end Go.Proofs.YtgklipfeheohkaaDoor.P
