import Derived.Test.YtgklipfeheohkaaDoorPx0
namespace Go.Proofs.YtgklipfeheohkaaDoor.P
open Go.RowKit Go.Proofs.YtgklipfeheohkaaDoorW.PrintWords Go.Proofs.YtgklipfeheohkaaDoorW.PrintLast Go.Proofs.YtgklipfeheohkaaDoorW.PrintMore
attribute [local go_sem] max2_int min2_int max_two min_two max_three min_three max_four min_four   -- for this text's walks alone
set_option linter.unusedVariables false
set_option linter.unusedSimpArgs false
theorem q24_ {P : Prop} (h : P := by repeat (first | (with_reducible first | exact HB.out | apply below_alloc | apply pw_below_drewN | apply below_drew1 | refine below_set ?_ GE105.out) | exact HB.out)) : P := h
theorem q31_ {P : Prop} (h : P := by (with_reducible repeat (first | refine blk_drewN ?_ _ | refine blk_drew ?_ | refine blk_alloc ?_ _)); exact BK105.out) : P := h
/-- A string told as new bytes. -/
def Convs (P : Program) (src dst : TypeId) (v : Value) (w : World) (Q : Ending → World → Prop) : Prop := ∃ x w1, (convert src dst v).run P w = .ok x w1 ∧ Q (.returned x) w1
theorem Convs.mono {P : Program} {src dst : TypeId} {v : Value} {w : World} {Q Q' : Ending → World → Prop} (h : Convs P src dst v w Q) (hq : ∀ e w', Q e w' → Q' e w') : Convs P src dst v w Q' := by
 obtain ⟨x, w1, h1, h2⟩ := h
 exact ⟨x, w1, h1, hq _ _ h2⟩
def stream_path.f (a0 : ByteArray) : Option (Bool) := (stream_Cut.f a0).bind fun bt101 => (some (bt101.2 == 0))
set_option maxHeartbeats 8000000 in
set_option maxRecDepth 100000 in
theorem stream_path.calls (a0 : ByteArray) (r : Bool) (w : World) (h : stream_path.f a0 = some r) :
  Calls Tryd.prog 28 #[.string a0] w fun e w' => e = .returned (.bool r) ∧ Below w.heap.size w w' := by
 have HB := Aside0.mk (Below.refl w.heap.size w)
 have H : ((stream_Cut.f a0).bind fun bt101 => (some (bt101.2 == 0))) = some r := h
 clear h
 replace H := Option.bind_eq_some_iff.mp H
 obtain ⟨⟨t101, t102⟩, A20, H⟩ := H
 replace H : (some (t102 == 0)) = some r := H
 have A2 := Aside0.mk A20
 clear A20
 obtain rfl := Option.some.inj H
 go_enter Tryd.func28, Tryd.ntmps28
 go_wp2_with (first | ((with_reducible refine gate_callee (f := 10) rfl ?_); refine goesL_ (some 7) rfl rfl Tryd.func10 q18_ rfl #[.string a0] rfl q1_ ?_; (with_reducible refine (stream_Cut.calls a0 t101 t102 _ A2.out).mono ?_); rintro e w3 ⟨v103, rfl, ho0, hb⟩; refine ⟨_, rfl, ?_⟩; have n0_ := Aside0.mk (Kd.R_lower ho0 (below_size q0_)); have n1_ := Aside0.mk (below_step q0_ hb); clear HB; have HO104 := n0_; have HB := n1_; clear n0_ n1_; (try clear hb); (try clear hb2); (try clear hk); (try clear hi); (try clear ho0)))
 go_ret
 exact ⟨q9_, by repeat (first | (with_reducible first | exact HB.out | apply below_alloc | apply pw_below_drewN | apply below_drew1) | exact HB.out)⟩
def stream_Good.j0 : Nat → Bool → Int → ByteArray → ByteArray → Int → List Int → Option (Bool)
 | 0, _, _, _, _, _, _ => none
 | k + 1, x19, x106000, x106001, x106002, x106003, x106004 => if x19 = true then (some false) else (if x106000 = 3 then ((stream_path.f x106002).bind fun t107 => (if t107 = true then (if x106003 = 0 then (some ((x106004.length : Int) == 0)) else (some false)) else (some false))) else (if x106000 = 4 then (if (x106004.length : Int) > 0 then (if x106003 ≥ 0 then (if x106002.toList = ([] : List UInt8) then (if x106003 ≤ 8192 then (some (decide ((x106004.length : Int) ≤ 128))) else (some false)) else (some false)) else (if x106002.toList = ([] : List UInt8) then (some false) else (some false))) else (if x106003 ≥ 0 then (if x106002.toList = ([] : List UInt8) then (if x106003 ≤ 8192 then (some false) else (some false)) else (some false)) else (if x106002.toList = ([] : List UInt8) then (some false) else (some false)))) else (if x106000 = 5 then (if x106003 ≥ 0 then (if x106002.toList = ([] : List UInt8) then (if x106003 ≤ 8192 then (some ((x106004.length : Int) == 0)) else (some false)) else (some false)) else (if x106002.toList = ([] : List UInt8) then (some false) else (some false))) else (if x106002.toList = ([] : List UInt8) then (if x106003 = 0 then (some ((x106004.length : Int) == 0)) else (some false)) else (some false)))))
def stream_Good.f (k : Nat) (a0_0 : Int) (a0_1 : ByteArray) (a0_2 : ByteArray) (a0_3 : Int) (l0_4 : List Int) : Option (Bool) := if a0_0 < 1 then (stream_Good.j0 k true a0_0 a0_1 a0_2 a0_3 l0_4) else (if a0_0 > 7 then (stream_Good.j0 k true a0_0 a0_1 a0_2 a0_3 l0_4) else ((stream_path.f a0_1).bind fun t106 => (stream_Good.j0 k (!t106) a0_0 a0_1 a0_2 a0_3 l0_4)))
theorem stream_Good.mono_l : ∀ k, (∀ y0 y1 y2 y3 y4 y5, LeO (stream_Good.j0 k y0 y1 y2 y3 y4 y5) (stream_Good.j0 (k + 1) y0 y1 y2 y3 y4 y5))
 | 0 => fun _ _ _ _ _ _ r h => absurd (show none = some r from h) (by simp)
 | k + 1 => by
  have ih0 := stream_Good.mono_l k
  ·intro y0 y1 y2 y3 y4 y5
   unfold stream_Good.j0
   repeat' first
   | (with_reducible exact ih0 _ _ _ _ _ _)
   | (with_reducible exact LeO.refl _)
   | (with_reducible exact LeO.none _)
   | (with_reducible refine LeO.ite ?_ ?_)
   | (with_reducible refine LeO.bind ?_ (fun _ => ?_))
   | exact ih0 _ _ _ _ _ _
   | exact LeO.none _
   | refine LeO.ite ?_ ?_
   | refine LeO.bind ?_ (fun _ => ?_)
theorem stream_Good.mono : ∀ a0 a1 a2 a3 a4 k, LeO (stream_Good.f k a0 a1 a2 a3 a4) (stream_Good.f (k + 1) a0 a1 a2 a3 a4) := by
 intro a0 a1 a2 a3 a4 k
 have ih0 := stream_Good.mono_l k
 unfold stream_Good.f
 repeat' first
   | (with_reducible exact ih0 _ _ _ _ _ _)
   | (with_reducible exact LeO.refl _)
   | (with_reducible exact LeO.none _)
   | (with_reducible refine LeO.ite ?_ ?_)
   | (with_reducible refine LeO.bind ?_ (fun _ => ?_))
   | exact ih0 _ _ _ _ _ _
   | exact LeO.none _
   | refine LeO.ite ?_ ?_
   | refine LeO.bind ?_ (fun _ => ?_)
set_option maxHeartbeats 8000000 in
set_option maxRecDepth 100000 in
theorem stream_Good.calls (k : Nat) (a0_0 : Int) (a0_1 : ByteArray) (a0_2 : ByteArray) (a0_3 : Int) (A0_4 : Option Addr) (c0_4 : Nat) (l0_4 : List Int) (r : Bool) (w : World) (hr0_4 : Kd.C (Kd.int .u8) w A0_4 l0_4.length l0_4) (hc0_4 : l0_4.length ≤ c0_4) (h : stream_Good.f k a0_0 a0_1 a0_2 a0_3 l0_4 = some r) :
  Calls Tryd.prog 17 #[.agg #[.int .i64 a0_0, .string a0_1, .string a0_2, .int .i64 a0_3, .slice A0_4 l0_4.length c0_4]] w fun e w' => e = .returned (.bool r) ∧ Below w.heap.size w w' := by
 have hu37 := Tryd.underlying37
 have HR0_4 := Aside0.mk hr0_4
 have HC0_4 := Aside0.mk hc0_4
 clear hr0_4 hc0_4
 have HB := Aside0.mk (Below.refl w.heap.size w)
 have H : (if a0_0 < 1 then (stream_Good.j0 k true a0_0 a0_1 a0_2 a0_3 l0_4) else (if a0_0 > 7 then (stream_Good.j0 k true a0_0 a0_1 a0_2 a0_3 l0_4) else ((stream_path.f a0_1).bind fun t106 => (stream_Good.j0 k (!t106) a0_0 a0_1 a0_2 a0_3 l0_4)))) = some r := h
 clear h
 have HC2 := Aside0.mk H
 clear H
 go_enter Tryd.func17, Tryd.ntmps17
 go_upto_region 1 with (first | ((with_reducible refine gate_dst (N := 1) rfl ?_); (try (refine gate_guard (by rfl) ?_; dsimp only)); refine box_event ?hg (N := 1) ?hd (cs := #[.int .i64 a0_0, .string a0_1, .string a0_2, .int .i64 a0_3, .slice A0_4 l0_4.length c0_4]) (t := 37) ?hr ?_; (case hd => rfl); (case hg => rfl); (case hr => first | (go_simp; done) | (go_simp; rfl)); intro gb105 hg w3 hbox hb; have n0_ := Aside0.mk (below_step q0_ hb); have n1_ := Aside0.mk (hbox); have n2_ := Aside0.mk ((by rw [hg]; exact (below_size q0_) : w.heap.size ≤ gb105)); have n3_ := Aside0.mk ((by rw [hg]; exact (below_size q0_) : w.heap.size ≤ gb105)); clear HB; have HB := n0_; have BK105 := n1_; have GW105 := n2_; have GE105 := n3_; clear n0_ n1_ n2_ n3_; clear hb hbox hg))
 repeat (go_quiet (first | ((with_reducible refine gate_dst (N := 1) rfl ?_); (try (refine gate_guard (by rfl) ?_; dsimp only)); refine box_event ?hg (N := 1) ?hd (cs := #[.int .i64 a0_0, .string a0_1, .string a0_2, .int .i64 a0_3, .slice A0_4 l0_4.length c0_4]) (t := 37) ?hr ?_; (case hd => rfl); (case hg => rfl); (case hr => first | (go_simp; done) | (go_simp; rfl)); intro gb105 hg w3 hbox hb; have n0_ := Aside0.mk (below_step q0_ hb); have n1_ := Aside0.mk (hbox); have n2_ := Aside0.mk ((by rw [hg]; exact (below_size q0_) : w.heap.size ≤ gb105)); have n3_ := Aside0.mk ((by rw [hg]; exact (below_size q0_) : w.heap.size ≤ gb105)); clear HB; have HB := n0_; have BK105 := n1_; have GW105 := n2_; have GE105 := n3_; clear n0_ n1_ n2_ n3_; clear hb hbox hg)); go_upto_region 1 with (first | ((with_reducible refine gate_dst (N := 1) rfl ?_); (try (refine gate_guard (by rfl) ?_; dsimp only)); refine box_event ?hg (N := 1) ?hd (cs := #[.int .i64 a0_0, .string a0_1, .string a0_2, .int .i64 a0_3, .slice A0_4 l0_4.length c0_4]) (t := 37) ?hr ?_; (case hd => rfl); (case hg => rfl); (case hr => first | (go_simp; done) | (go_simp; rfl)); intro gb105 hg w3 hbox hb; have n0_ := Aside0.mk (below_step q0_ hb); have n1_ := Aside0.mk (hbox); have n2_ := Aside0.mk ((by rw [hg]; exact (below_size q0_) : w.heap.size ≤ gb105)); have n3_ := Aside0.mk ((by rw [hg]; exact (below_size q0_) : w.heap.size ≤ gb105)); clear HB; have HB := n0_; have BK105 := n1_; have GW105 := n2_; have GE105 := n3_; clear n0_ n1_ n2_ n3_; clear hb hbox hg)))
 (try simp only [Act.put, List.setIfInBounds_toArray, List.set_cons_zero, List.set_cons_succ])
 go_cut [19] (fun v19 wc => ∃ (kq : Nat) (x19_1 : Bool), v19 = .bool x19_1 ∧ Aside0 (stream_Good.j0 kq x19_1 a0_0 a0_1 a0_2 a0_3 l0_4 = some r) ∧ Aside0 (kq ≤ k) ∧ Aside0 (wc.heap[gb105]? = some (.cells #[.int .i64 a0_0, .string a0_1, .string a0_2, .int .i64 a0_3, (.slice A0_4 l0_4.length c0_4)] 37 (0, 0))) ∧ Aside0 (Below w.heap.size w wc))
 case first =>
  have H := HC2.out
  clear HC2
  by_cases c4 : a0_0 < 1
  ·rw [if_pos c4] at H
   have c4b0 : decide (a0_0 < 1) = true := decide_eq_true c4
   clear c4
   (first | rw [c4b0] | (simp only [i64_w, i32_w]; rw [c4b0]) | skip)
   have H' := Aside0.mk H
   clear H
   have hcz5_0 : w3.cell? ⟨gb105, 0, none⟩ = some (.int .i64 a0_0) := (blk_cell BK105.out 0).trans rfl
   have hcz5_1 : w3.cell? ⟨gb105, 1, none⟩ = some (.string a0_1) := (blk_cell BK105.out 1).trans rfl
   have hcz5_2 : w3.cell? ⟨gb105, 2, none⟩ = some (.string a0_2) := (blk_cell BK105.out 2).trans rfl
   have hcz5_3 : w3.cell? ⟨gb105, 3, none⟩ = some (.int .i64 a0_3) := (blk_cell BK105.out 3).trans rfl
   have hcz5_4 : w3.cell? ⟨gb105, 4, none⟩ = some (.slice A0_4 l0_4.length c0_4) := (blk_cell BK105.out 4).trans rfl
   have hfz5_0 := blk_frozen BK105.out 0
   have hfz5_1 := blk_frozen BK105.out 1
   have hfz5_2 := blk_frozen BK105.out 2
   have hfz5_3 := blk_frozen BK105.out 3
   have hfz5_4 := blk_frozen BK105.out 4
   go_wp2
   repeat (go_quiet (fail); try go_wp2)
   go_meet
   case rel => exact ⟨_, (true), q3_, H', ⟨q51_⟩, ⟨q31_⟩, ⟨q24_⟩⟩
  ·rw [if_neg c4] at H
   have c4b0 : decide (a0_0 < 1) = false := decide_eq_false c4
   clear c4
   (first | rw [c4b0] | (simp only [i64_w, i32_w]; rw [c4b0]) | skip)
   by_cases c6 : a0_0 > 7
   ·rw [if_pos c6] at H
    have c6b0 : decide (7 < a0_0) = true := decide_eq_true c6
    clear c6
    have H' := Aside0.mk H
    clear H
    have hcz7_0 : w3.cell? ⟨gb105, 0, none⟩ = some (.int .i64 a0_0) := (blk_cell BK105.out 0).trans rfl
    have hcz7_1 : w3.cell? ⟨gb105, 1, none⟩ = some (.string a0_1) := (blk_cell BK105.out 1).trans rfl
    have hcz7_2 : w3.cell? ⟨gb105, 2, none⟩ = some (.string a0_2) := (blk_cell BK105.out 2).trans rfl
    have hcz7_3 : w3.cell? ⟨gb105, 3, none⟩ = some (.int .i64 a0_3) := (blk_cell BK105.out 3).trans rfl
    have hcz7_4 : w3.cell? ⟨gb105, 4, none⟩ = some (.slice A0_4 l0_4.length c0_4) := (blk_cell BK105.out 4).trans rfl
    have hfz7_0 := blk_frozen BK105.out 0
    have hfz7_1 := blk_frozen BK105.out 1
    have hfz7_2 := blk_frozen BK105.out 2
    have hfz7_3 := blk_frozen BK105.out 3
    have hfz7_4 := blk_frozen BK105.out 4
    go_wp2
    repeat (go_quiet (fail); try go_wp2)
    go_meet
    case rel => exact ⟨_, (true), q3_, H', ⟨q51_⟩, ⟨q31_⟩, ⟨q24_⟩⟩
   ·rw [if_neg c6] at H
    have c6b0 : decide (7 < a0_0) = false := decide_eq_false c6
    clear c6
    replace H := Option.bind_eq_some_iff.mp H
    obtain ⟨t106, A80, H⟩ := H
    replace H : (stream_Good.j0 k (!t106) a0_0 a0_1 a0_2 a0_3 l0_4) = some r := H
    have A8 := Aside0.mk A80
    clear A80
    have H' := Aside0.mk H
    clear H
    have hcz9_0 : w3.cell? ⟨gb105, 0, none⟩ = some (.int .i64 a0_0) := (blk_cell BK105.out 0).trans rfl
    have hcz9_1 : w3.cell? ⟨gb105, 1, none⟩ = some (.string a0_1) := (blk_cell BK105.out 1).trans rfl
    have hcz9_2 : w3.cell? ⟨gb105, 2, none⟩ = some (.string a0_2) := (blk_cell BK105.out 2).trans rfl
    have hcz9_3 : w3.cell? ⟨gb105, 3, none⟩ = some (.int .i64 a0_3) := (blk_cell BK105.out 3).trans rfl
    have hcz9_4 : w3.cell? ⟨gb105, 4, none⟩ = some (.slice A0_4 l0_4.length c0_4) := (blk_cell BK105.out 4).trans rfl
    have hfz9_0 := blk_frozen BK105.out 0
    have hfz9_1 := blk_frozen BK105.out 1
    have hfz9_2 := blk_frozen BK105.out 2
    have hfz9_3 := blk_frozen BK105.out 3
    have hfz9_4 := blk_frozen BK105.out 4
    go_wp2_with (first | (go_at_call 28; (with_reducible refine (stream_path.calls a0_1 t106 _ A8.out).mono ?_); rintro e w10 ⟨rfl, hb⟩; have n0_ := Aside0.mk (blk_below (g := gb105) (o := .cells #[.int .i64 a0_0, .string a0_1, .string a0_2, .int .i64 a0_3, .slice A0_4 l0_4.length c0_4] 37 (0, 0)) q31_ hb); have n1_ := Aside0.mk (below_step q24_ hb); clear BK105; clear HB; have BK105 := n0_; have HB := n1_; clear n0_ n1_; (try clear hb); (try clear hb2); (try clear hk); (try clear hi)))
    repeat (go_quiet (first | (go_at_call 28; (with_reducible refine (stream_path.calls a0_1 t106 _ A8.out).mono ?_); rintro e w10 ⟨rfl, hb⟩; have n0_ := Aside0.mk (blk_below (g := gb105) (o := .cells #[.int .i64 a0_0, .string a0_1, .string a0_2, .int .i64 a0_3, .slice A0_4 l0_4.length c0_4] 37 (0, 0)) q31_ hb); have n1_ := Aside0.mk (below_step q24_ hb); clear BK105; clear HB; have BK105 := n0_; have HB := n1_; clear n0_ n1_; (try clear hb); (try clear hb2); (try clear hk); (try clear hi))); try go_wp2_with (first | (go_at_call 28; (with_reducible refine (stream_path.calls a0_1 t106 _ A8.out).mono ?_); rintro e w10 ⟨rfl, hb⟩; have n0_ := Aside0.mk (blk_below (g := gb105) (o := .cells #[.int .i64 a0_0, .string a0_1, .string a0_2, .int .i64 a0_3, .slice A0_4 l0_4.length c0_4] 37 (0, 0)) q31_ hb); have n1_ := Aside0.mk (below_step q24_ hb); clear BK105; clear HB; have BK105 := n0_; have HB := n1_; clear n0_ n1_; (try clear hb); (try clear hb2); (try clear hk); (try clear hi))))
    go_meet
    case rel => exact ⟨_, (!t106), q3_, H', ⟨q51_⟩, ⟨q31_⟩, ⟨q24_⟩⟩
 case rest =>
  clear HC2
  try clear c1
  try clear p2
  try clear c4
  try clear c4b0
  try clear c6
  try clear c6b0
  try clear hcz5_0
  try clear hcz5_1
  try clear hcz5_2
  try clear hcz5_3
  try clear hcz5_4
  try clear hcz7_0
  try clear hcz7_1
  try clear hcz7_2
  try clear hcz7_3
  try clear hcz7_4
  try clear hcz9_0
  try clear hcz9_1
  try clear hcz9_2
  try clear hcz9_3
  try clear hcz9_4
  try clear hfz5_0
  try clear hfz5_1
  try clear hfz5_2
  try clear hfz5_3
  try clear hfz5_4
  try clear hfz7_0
  try clear hfz7_1
  try clear hfz7_2
  try clear hfz7_3
  try clear hfz7_4
  try clear hfz9_0
  try clear hfz9_1
  try clear hfz9_2
  try clear hfz9_3
  try clear hfz9_4
  obtain ⟨kq, x19_1, rfl, HA, HJ1, BK105, HB⟩ := hcut
  cases kq with
  | zero => exact absurd (show none = some _ from HA.out) (by simp)
  | succ kj1 =>
   have H := HA.out
   clear HA
   simp only [stream_Good.j0] at H
   by_cases c11 : x19_1 = true
   ·subst c11
    have H1 : (some false) = some r := by rw [if_pos rfl] at H; exact H
    clear H
    have H := H1
    clear H1
    obtain rfl := Option.some.inj H
    go_wp2
    repeat (go_quiet (fail); try go_wp2)
    go_ret
    exact ⟨q9_, by repeat (first | (with_reducible first | exact HB.out | apply below_alloc | apply pw_below_drewN | apply below_drew1 | refine below_set ?_ GE105.out) | exact HB.out)⟩
   ·replace c11 := Bool.eq_false_iff.mpr c11
    subst c11
    have H1 : (if a0_0 = 3 then ((stream_path.f a0_2).bind fun t107 => (if t107 = true then (if a0_3 = 0 then (some ((l0_4.length : Int) == 0)) else (some false)) else (some false))) else (if a0_0 = 4 then (if (l0_4.length : Int) > 0 then (if a0_3 ≥ 0 then (if a0_2.toList = ([] : List UInt8) then (if a0_3 ≤ 8192 then (some (decide ((l0_4.length : Int) ≤ 128))) else (some false)) else (some false)) else (if a0_2.toList = ([] : List UInt8) then (some false) else (some false))) else (if a0_3 ≥ 0 then (if a0_2.toList = ([] : List UInt8) then (if a0_3 ≤ 8192 then (some false) else (some false)) else (some false)) else (if a0_2.toList = ([] : List UInt8) then (some false) else (some false)))) else (if a0_0 = 5 then (if a0_3 ≥ 0 then (if a0_2.toList = ([] : List UInt8) then (if a0_3 ≤ 8192 then (some ((l0_4.length : Int) == 0)) else (some false)) else (some false)) else (if a0_2.toList = ([] : List UInt8) then (some false) else (some false))) else (if a0_2.toList = ([] : List UInt8) then (if a0_3 = 0 then (some ((l0_4.length : Int) == 0)) else (some false)) else (some false))))) = some r := by rw [if_neg (show ¬ (false = true) by decide)] at H; exact H
    clear H
    have H := H1
    clear H1
    by_cases c12 : a0_0 = 3
    ·rw [if_pos c12] at H
     have c12b0 : (a0_0 == 3) = true := beq_iff_eq.mpr c12
     have c12b1 : (a0_0 != 3) = false := bne_eq_false_iff_eq.mpr c12
     clear c12
     replace H := Option.bind_eq_some_iff.mp H
     obtain ⟨t107, A130, H⟩ := H
     replace H : (if t107 = true then (if a0_3 = 0 then (some ((l0_4.length : Int) == 0)) else (some false)) else (some false)) = some r := H
     have A13 := Aside0.mk A130
     clear A130
     by_cases c14 : t107 = true
     ·subst c14
      have H1 : (if a0_3 = 0 then (some ((l0_4.length : Int) == 0)) else (some false)) = some r := by rw [if_pos rfl] at H; exact H
      clear H
      have H := H1
      clear H1
      by_cases c15 : a0_3 = 0
      ·rw [if_pos c15] at H
       have c15b0 : (a0_3 == 0) = true := beq_iff_eq.mpr c15
       have c15b1 : (a0_3 != 0) = false := bne_eq_false_iff_eq.mpr c15
       clear c15
       obtain rfl := Option.some.inj H
       have hcz16_0 : wc.cell? ⟨gb105, 0, none⟩ = some (.int .i64 a0_0) := (blk_cell BK105.out 0).trans rfl
       have hcz16_1 : wc.cell? ⟨gb105, 1, none⟩ = some (.string a0_1) := (blk_cell BK105.out 1).trans rfl
       have hcz16_2 : wc.cell? ⟨gb105, 2, none⟩ = some (.string a0_2) := (blk_cell BK105.out 2).trans rfl
       have hcz16_3 : wc.cell? ⟨gb105, 3, none⟩ = some (.int .i64 a0_3) := (blk_cell BK105.out 3).trans rfl
       have hcz16_4 : wc.cell? ⟨gb105, 4, none⟩ = some (.slice A0_4 l0_4.length c0_4) := (blk_cell BK105.out 4).trans rfl
       have hfz16_0 := blk_frozen BK105.out 0
       have hfz16_1 := blk_frozen BK105.out 1
       have hfz16_2 := blk_frozen BK105.out 2
       have hfz16_3 := blk_frozen BK105.out 3
       have hfz16_4 := blk_frozen BK105.out 4
       go_wp2_with (first | (go_at_call 28; (with_reducible refine (stream_path.calls a0_2 true _ A13.out).mono ?_); rintro e w17 ⟨rfl, hb⟩; have n0_ := Aside0.mk (blk_below (g := gb105) (o := .cells #[.int .i64 a0_0, .string a0_1, .string a0_2, .int .i64 a0_3, .slice A0_4 l0_4.length c0_4] 37 (0, 0)) q31_ hb); have n1_ := Aside0.mk (below_step q24_ hb); clear BK105; clear HB; have BK105 := n0_; have HB := n1_; clear n0_ n1_; (try clear hb); (try clear hb2); (try clear hk); (try clear hi)))
       repeat (go_quiet (first | (go_at_call 28; (with_reducible refine (stream_path.calls a0_2 true _ A13.out).mono ?_); rintro e w17 ⟨rfl, hb⟩; have n0_ := Aside0.mk (blk_below (g := gb105) (o := .cells #[.int .i64 a0_0, .string a0_1, .string a0_2, .int .i64 a0_3, .slice A0_4 l0_4.length c0_4] 37 (0, 0)) q31_ hb); have n1_ := Aside0.mk (below_step q24_ hb); clear BK105; clear HB; have BK105 := n0_; have HB := n1_; clear n0_ n1_; (try clear hb); (try clear hb2); (try clear hk); (try clear hi))); try go_wp2_with (first | (go_at_call 28; (with_reducible refine (stream_path.calls a0_2 true _ A13.out).mono ?_); rintro e w17 ⟨rfl, hb⟩; have n0_ := Aside0.mk (blk_below (g := gb105) (o := .cells #[.int .i64 a0_0, .string a0_1, .string a0_2, .int .i64 a0_3, .slice A0_4 l0_4.length c0_4] 37 (0, 0)) q31_ hb); have n1_ := Aside0.mk (below_step q24_ hb); clear BK105; clear HB; have BK105 := n0_; have HB := n1_; clear n0_ n1_; (try clear hb); (try clear hb2); (try clear hk); (try clear hi))))
       go_ret
       exact ⟨q9_, by repeat (first | (with_reducible first | exact HB.out | apply below_alloc | apply pw_below_drewN | apply below_drew1 | refine below_set ?_ GE105.out) | exact HB.out)⟩
      ·rw [if_neg c15] at H
       have c15b0 : (a0_3 == 0) = false := beq_eq_false_iff_ne.mpr c15
       have c15b1 : (a0_3 != 0) = true := bne_iff_ne.mpr c15
       obtain rfl := Option.some.inj H
       have hcz18_0 : wc.cell? ⟨gb105, 0, none⟩ = some (.int .i64 a0_0) := (blk_cell BK105.out 0).trans rfl
       have hcz18_1 : wc.cell? ⟨gb105, 1, none⟩ = some (.string a0_1) := (blk_cell BK105.out 1).trans rfl
       have hcz18_2 : wc.cell? ⟨gb105, 2, none⟩ = some (.string a0_2) := (blk_cell BK105.out 2).trans rfl
       have hcz18_3 : wc.cell? ⟨gb105, 3, none⟩ = some (.int .i64 a0_3) := (blk_cell BK105.out 3).trans rfl
       have hcz18_4 : wc.cell? ⟨gb105, 4, none⟩ = some (.slice A0_4 l0_4.length c0_4) := (blk_cell BK105.out 4).trans rfl
       have hfz18_0 := blk_frozen BK105.out 0
       have hfz18_1 := blk_frozen BK105.out 1
       have hfz18_2 := blk_frozen BK105.out 2
       have hfz18_3 := blk_frozen BK105.out 3
       have hfz18_4 := blk_frozen BK105.out 4
       go_wp2_with (first | (go_at_call 28; (with_reducible refine (stream_path.calls a0_2 true _ A13.out).mono ?_); rintro e w19 ⟨rfl, hb⟩; have n0_ := Aside0.mk (blk_below (g := gb105) (o := .cells #[.int .i64 a0_0, .string a0_1, .string a0_2, .int .i64 a0_3, .slice A0_4 l0_4.length c0_4] 37 (0, 0)) q31_ hb); have n1_ := Aside0.mk (below_step q24_ hb); clear BK105; clear HB; have BK105 := n0_; have HB := n1_; clear n0_ n1_; (try clear hb); (try clear hb2); (try clear hk); (try clear hi)))
       repeat (go_quiet (first | (go_at_call 28; (with_reducible refine (stream_path.calls a0_2 true _ A13.out).mono ?_); rintro e w19 ⟨rfl, hb⟩; have n0_ := Aside0.mk (blk_below (g := gb105) (o := .cells #[.int .i64 a0_0, .string a0_1, .string a0_2, .int .i64 a0_3, .slice A0_4 l0_4.length c0_4] 37 (0, 0)) q31_ hb); have n1_ := Aside0.mk (below_step q24_ hb); clear BK105; clear HB; have BK105 := n0_; have HB := n1_; clear n0_ n1_; (try clear hb); (try clear hb2); (try clear hk); (try clear hi))); try go_wp2_with (first | (go_at_call 28; (with_reducible refine (stream_path.calls a0_2 true _ A13.out).mono ?_); rintro e w19 ⟨rfl, hb⟩; have n0_ := Aside0.mk (blk_below (g := gb105) (o := .cells #[.int .i64 a0_0, .string a0_1, .string a0_2, .int .i64 a0_3, .slice A0_4 l0_4.length c0_4] 37 (0, 0)) q31_ hb); have n1_ := Aside0.mk (below_step q24_ hb); clear BK105; clear HB; have BK105 := n0_; have HB := n1_; clear n0_ n1_; (try clear hb); (try clear hb2); (try clear hk); (try clear hi))))
       go_ret
       exact ⟨q9_, by repeat (first | (with_reducible first | exact HB.out | apply below_alloc | apply pw_below_drewN | apply below_drew1 | refine below_set ?_ GE105.out) | exact HB.out)⟩
     ·replace c14 := Bool.eq_false_iff.mpr c14
      subst c14
      have H1 : (some false) = some r := by rw [if_neg (show ¬ (false = true) by decide)] at H; exact H
      clear H
      have H := H1
      clear H1
      obtain rfl := Option.some.inj H
      have hcz20_0 : wc.cell? ⟨gb105, 0, none⟩ = some (.int .i64 a0_0) := (blk_cell BK105.out 0).trans rfl
      have hcz20_1 : wc.cell? ⟨gb105, 1, none⟩ = some (.string a0_1) := (blk_cell BK105.out 1).trans rfl
      have hcz20_2 : wc.cell? ⟨gb105, 2, none⟩ = some (.string a0_2) := (blk_cell BK105.out 2).trans rfl
      have hcz20_3 : wc.cell? ⟨gb105, 3, none⟩ = some (.int .i64 a0_3) := (blk_cell BK105.out 3).trans rfl
      have hcz20_4 : wc.cell? ⟨gb105, 4, none⟩ = some (.slice A0_4 l0_4.length c0_4) := (blk_cell BK105.out 4).trans rfl
      have hfz20_0 := blk_frozen BK105.out 0
      have hfz20_1 := blk_frozen BK105.out 1
      have hfz20_2 := blk_frozen BK105.out 2
      have hfz20_3 := blk_frozen BK105.out 3
      have hfz20_4 := blk_frozen BK105.out 4
      go_wp2_with (first | (go_at_call 28; (with_reducible refine (stream_path.calls a0_2 false _ A13.out).mono ?_); rintro e w21 ⟨rfl, hb⟩; have n0_ := Aside0.mk (blk_below (g := gb105) (o := .cells #[.int .i64 a0_0, .string a0_1, .string a0_2, .int .i64 a0_3, .slice A0_4 l0_4.length c0_4] 37 (0, 0)) q31_ hb); have n1_ := Aside0.mk (below_step q24_ hb); clear BK105; clear HB; have BK105 := n0_; have HB := n1_; clear n0_ n1_; (try clear hb); (try clear hb2); (try clear hk); (try clear hi)))
      repeat (go_quiet (first | (go_at_call 28; (with_reducible refine (stream_path.calls a0_2 false _ A13.out).mono ?_); rintro e w21 ⟨rfl, hb⟩; have n0_ := Aside0.mk (blk_below (g := gb105) (o := .cells #[.int .i64 a0_0, .string a0_1, .string a0_2, .int .i64 a0_3, .slice A0_4 l0_4.length c0_4] 37 (0, 0)) q31_ hb); have n1_ := Aside0.mk (below_step q24_ hb); clear BK105; clear HB; have BK105 := n0_; have HB := n1_; clear n0_ n1_; (try clear hb); (try clear hb2); (try clear hk); (try clear hi))); try go_wp2_with (first | (go_at_call 28; (with_reducible refine (stream_path.calls a0_2 false _ A13.out).mono ?_); rintro e w21 ⟨rfl, hb⟩; have n0_ := Aside0.mk (blk_below (g := gb105) (o := .cells #[.int .i64 a0_0, .string a0_1, .string a0_2, .int .i64 a0_3, .slice A0_4 l0_4.length c0_4] 37 (0, 0)) q31_ hb); have n1_ := Aside0.mk (below_step q24_ hb); clear BK105; clear HB; have BK105 := n0_; have HB := n1_; clear n0_ n1_; (try clear hb); (try clear hb2); (try clear hk); (try clear hi))))
      go_ret
      exact ⟨q9_, by repeat (first | (with_reducible first | exact HB.out | apply below_alloc | apply pw_below_drewN | apply below_drew1 | refine below_set ?_ GE105.out) | exact HB.out)⟩
    ·rw [if_neg c12] at H
     have c12b0 : (a0_0 == 3) = false := beq_eq_false_iff_ne.mpr c12
     have c12b1 : (a0_0 != 3) = true := bne_iff_ne.mpr c12
     by_cases c22 : a0_0 = 4
     ·rw [if_pos c22] at H
      have c22b0 : (a0_0 == 4) = true := beq_iff_eq.mpr c22
      have c22b1 : (a0_0 != 4) = false := bne_eq_false_iff_eq.mpr c22
      clear c22
      by_cases c23 : (l0_4.length : Int) > 0
      ·rw [if_pos c23] at H
       have c23b0 : decide (0 < (l0_4.length : Int)) = true := decide_eq_true c23
       have c23b1 : decide (0 < l0_4.length) = true := decide_eq_true (by omega)
       clear c23
       by_cases c24 : a0_3 ≥ 0
       ·rw [if_pos c24] at H
        have c24b0 : decide (0 ≤ a0_3) = true := decide_eq_true c24
        clear c24
        by_cases c25 : a0_2.toList = ([] : List UInt8)
        ·rw [if_pos c25] at H
         have c25b0 : (a0_2.toList == ([] : List UInt8)) = true := beq_iff_eq.mpr c25
         have c25b1 : (a0_2.toList != ([] : List UInt8)) = false := bne_eq_false_iff_eq.mpr c25
         clear c25
         by_cases c26 : a0_3 ≤ 8192
         ·rw [if_pos c26] at H
          have c26b0 : decide (a0_3 ≤ 8192) = true := decide_eq_true c26
          clear c26
          obtain rfl := Option.some.inj H
          have hcz27_0 : wc.cell? ⟨gb105, 0, none⟩ = some (.int .i64 a0_0) := (blk_cell BK105.out 0).trans rfl
          have hcz27_1 : wc.cell? ⟨gb105, 1, none⟩ = some (.string a0_1) := (blk_cell BK105.out 1).trans rfl
          have hcz27_2 : wc.cell? ⟨gb105, 2, none⟩ = some (.string a0_2) := (blk_cell BK105.out 2).trans rfl
          have hcz27_3 : wc.cell? ⟨gb105, 3, none⟩ = some (.int .i64 a0_3) := (blk_cell BK105.out 3).trans rfl
          have hcz27_4 : wc.cell? ⟨gb105, 4, none⟩ = some (.slice A0_4 l0_4.length c0_4) := (blk_cell BK105.out 4).trans rfl
          have hfz27_0 := blk_frozen BK105.out 0
          have hfz27_1 := blk_frozen BK105.out 1
          have hfz27_2 := blk_frozen BK105.out 2
          have hfz27_3 := blk_frozen BK105.out 3
          have hfz27_4 := blk_frozen BK105.out 4
          go_wp2
          repeat (go_quiet (fail); try go_wp2)
          go_ret
          exact ⟨q9_, by repeat (first | (with_reducible first | exact HB.out | apply below_alloc | apply pw_below_drewN | apply below_drew1 | refine below_set ?_ GE105.out) | exact HB.out)⟩
         ·rw [if_neg c26] at H
          have c26b0 : decide (a0_3 ≤ 8192) = false := decide_eq_false c26
          clear c26
          obtain rfl := Option.some.inj H
          have hcz28_0 : wc.cell? ⟨gb105, 0, none⟩ = some (.int .i64 a0_0) := (blk_cell BK105.out 0).trans rfl
          have hcz28_1 : wc.cell? ⟨gb105, 1, none⟩ = some (.string a0_1) := (blk_cell BK105.out 1).trans rfl
          have hcz28_2 : wc.cell? ⟨gb105, 2, none⟩ = some (.string a0_2) := (blk_cell BK105.out 2).trans rfl
          have hcz28_3 : wc.cell? ⟨gb105, 3, none⟩ = some (.int .i64 a0_3) := (blk_cell BK105.out 3).trans rfl
          have hcz28_4 : wc.cell? ⟨gb105, 4, none⟩ = some (.slice A0_4 l0_4.length c0_4) := (blk_cell BK105.out 4).trans rfl
          have hfz28_0 := blk_frozen BK105.out 0
          have hfz28_1 := blk_frozen BK105.out 1
          have hfz28_2 := blk_frozen BK105.out 2
          have hfz28_3 := blk_frozen BK105.out 3
          have hfz28_4 := blk_frozen BK105.out 4
          go_wp2
          repeat (go_quiet (fail); try go_wp2)
          go_ret
          exact ⟨q9_, by repeat (first | (with_reducible first | exact HB.out | apply below_alloc | apply pw_below_drewN | apply below_drew1 | refine below_set ?_ GE105.out) | exact HB.out)⟩
        ·rw [if_neg c25] at H
         have c25b0 : (a0_2.toList == ([] : List UInt8)) = false := beq_eq_false_iff_ne.mpr c25
         have c25b1 : (a0_2.toList != ([] : List UInt8)) = true := bne_iff_ne.mpr c25
         obtain rfl := Option.some.inj H
         have hcz29_0 : wc.cell? ⟨gb105, 0, none⟩ = some (.int .i64 a0_0) := (blk_cell BK105.out 0).trans rfl
         have hcz29_1 : wc.cell? ⟨gb105, 1, none⟩ = some (.string a0_1) := (blk_cell BK105.out 1).trans rfl
         have hcz29_2 : wc.cell? ⟨gb105, 2, none⟩ = some (.string a0_2) := (blk_cell BK105.out 2).trans rfl
         have hcz29_3 : wc.cell? ⟨gb105, 3, none⟩ = some (.int .i64 a0_3) := (blk_cell BK105.out 3).trans rfl
         have hcz29_4 : wc.cell? ⟨gb105, 4, none⟩ = some (.slice A0_4 l0_4.length c0_4) := (blk_cell BK105.out 4).trans rfl
         have hfz29_0 := blk_frozen BK105.out 0
         have hfz29_1 := blk_frozen BK105.out 1
         have hfz29_2 := blk_frozen BK105.out 2
         have hfz29_3 := blk_frozen BK105.out 3
         have hfz29_4 := blk_frozen BK105.out 4
         go_wp2
         repeat (go_quiet (fail); try go_wp2)
         go_ret
         exact ⟨q9_, by repeat (first | (with_reducible first | exact HB.out | apply below_alloc | apply pw_below_drewN | apply below_drew1 | refine below_set ?_ GE105.out) | exact HB.out)⟩
       ·rw [if_neg c24] at H
        have c24b0 : decide (0 ≤ a0_3) = false := decide_eq_false c24
        clear c24
        by_cases c30 : a0_2.toList = ([] : List UInt8)
        ·rw [if_pos c30] at H
         have c30b0 : (a0_2.toList == ([] : List UInt8)) = true := beq_iff_eq.mpr c30
         have c30b1 : (a0_2.toList != ([] : List UInt8)) = false := bne_eq_false_iff_eq.mpr c30
         clear c30
         obtain rfl := Option.some.inj H
         have hcz31_0 : wc.cell? ⟨gb105, 0, none⟩ = some (.int .i64 a0_0) := (blk_cell BK105.out 0).trans rfl
         have hcz31_1 : wc.cell? ⟨gb105, 1, none⟩ = some (.string a0_1) := (blk_cell BK105.out 1).trans rfl
         have hcz31_2 : wc.cell? ⟨gb105, 2, none⟩ = some (.string a0_2) := (blk_cell BK105.out 2).trans rfl
         have hcz31_3 : wc.cell? ⟨gb105, 3, none⟩ = some (.int .i64 a0_3) := (blk_cell BK105.out 3).trans rfl
         have hcz31_4 : wc.cell? ⟨gb105, 4, none⟩ = some (.slice A0_4 l0_4.length c0_4) := (blk_cell BK105.out 4).trans rfl
         have hfz31_0 := blk_frozen BK105.out 0
         have hfz31_1 := blk_frozen BK105.out 1
         have hfz31_2 := blk_frozen BK105.out 2
         have hfz31_3 := blk_frozen BK105.out 3
         have hfz31_4 := blk_frozen BK105.out 4
         go_wp2
         repeat (go_quiet (fail); try go_wp2)
         go_ret
         exact ⟨q9_, by repeat (first | (with_reducible first | exact HB.out | apply below_alloc | apply pw_below_drewN | apply below_drew1 | refine below_set ?_ GE105.out) | exact HB.out)⟩
        ·rw [if_neg c30] at H
         have c30b0 : (a0_2.toList == ([] : List UInt8)) = false := beq_eq_false_iff_ne.mpr c30
         have c30b1 : (a0_2.toList != ([] : List UInt8)) = true := bne_iff_ne.mpr c30
         obtain rfl := Option.some.inj H
         have hcz32_0 : wc.cell? ⟨gb105, 0, none⟩ = some (.int .i64 a0_0) := (blk_cell BK105.out 0).trans rfl
         have hcz32_1 : wc.cell? ⟨gb105, 1, none⟩ = some (.string a0_1) := (blk_cell BK105.out 1).trans rfl
         have hcz32_2 : wc.cell? ⟨gb105, 2, none⟩ = some (.string a0_2) := (blk_cell BK105.out 2).trans rfl
         have hcz32_3 : wc.cell? ⟨gb105, 3, none⟩ = some (.int .i64 a0_3) := (blk_cell BK105.out 3).trans rfl
         have hcz32_4 : wc.cell? ⟨gb105, 4, none⟩ = some (.slice A0_4 l0_4.length c0_4) := (blk_cell BK105.out 4).trans rfl
         have hfz32_0 := blk_frozen BK105.out 0
         have hfz32_1 := blk_frozen BK105.out 1
         have hfz32_2 := blk_frozen BK105.out 2
         have hfz32_3 := blk_frozen BK105.out 3
         have hfz32_4 := blk_frozen BK105.out 4
         go_wp2
         repeat (go_quiet (fail); try go_wp2)
         go_ret
         exact ⟨q9_, by repeat (first | (with_reducible first | exact HB.out | apply below_alloc | apply pw_below_drewN | apply below_drew1 | refine below_set ?_ GE105.out) | exact HB.out)⟩
      ·rw [if_neg c23] at H
       have c23b0 : decide (0 < (l0_4.length : Int)) = false := decide_eq_false c23
       have c23b1 : decide (0 < l0_4.length) = false := decide_eq_false (by omega)
       clear c23
       by_cases c33 : a0_3 ≥ 0
       ·rw [if_pos c33] at H
        have c33b0 : decide (0 ≤ a0_3) = true := decide_eq_true c33
        clear c33
        by_cases c34 : a0_2.toList = ([] : List UInt8)
        ·rw [if_pos c34] at H
         have c34b0 : (a0_2.toList == ([] : List UInt8)) = true := beq_iff_eq.mpr c34
         have c34b1 : (a0_2.toList != ([] : List UInt8)) = false := bne_eq_false_iff_eq.mpr c34
         clear c34
         by_cases c35 : a0_3 ≤ 8192
         ·rw [if_pos c35] at H
          have c35b0 : decide (a0_3 ≤ 8192) = true := decide_eq_true c35
          clear c35
          obtain rfl := Option.some.inj H
          have hcz36_0 : wc.cell? ⟨gb105, 0, none⟩ = some (.int .i64 a0_0) := (blk_cell BK105.out 0).trans rfl
          have hcz36_1 : wc.cell? ⟨gb105, 1, none⟩ = some (.string a0_1) := (blk_cell BK105.out 1).trans rfl
          have hcz36_2 : wc.cell? ⟨gb105, 2, none⟩ = some (.string a0_2) := (blk_cell BK105.out 2).trans rfl
          have hcz36_3 : wc.cell? ⟨gb105, 3, none⟩ = some (.int .i64 a0_3) := (blk_cell BK105.out 3).trans rfl
          have hcz36_4 : wc.cell? ⟨gb105, 4, none⟩ = some (.slice A0_4 l0_4.length c0_4) := (blk_cell BK105.out 4).trans rfl
          have hfz36_0 := blk_frozen BK105.out 0
          have hfz36_1 := blk_frozen BK105.out 1
          have hfz36_2 := blk_frozen BK105.out 2
          have hfz36_3 := blk_frozen BK105.out 3
          have hfz36_4 := blk_frozen BK105.out 4
          go_wp2
          repeat (go_quiet (fail); try go_wp2)
          go_ret
          exact ⟨q9_, by repeat (first | (with_reducible first | exact HB.out | apply below_alloc | apply pw_below_drewN | apply below_drew1 | refine below_set ?_ GE105.out) | exact HB.out)⟩
         ·rw [if_neg c35] at H
          have c35b0 : decide (a0_3 ≤ 8192) = false := decide_eq_false c35
          clear c35
          obtain rfl := Option.some.inj H
          have hcz37_0 : wc.cell? ⟨gb105, 0, none⟩ = some (.int .i64 a0_0) := (blk_cell BK105.out 0).trans rfl
          have hcz37_1 : wc.cell? ⟨gb105, 1, none⟩ = some (.string a0_1) := (blk_cell BK105.out 1).trans rfl
          have hcz37_2 : wc.cell? ⟨gb105, 2, none⟩ = some (.string a0_2) := (blk_cell BK105.out 2).trans rfl
          have hcz37_3 : wc.cell? ⟨gb105, 3, none⟩ = some (.int .i64 a0_3) := (blk_cell BK105.out 3).trans rfl
          have hcz37_4 : wc.cell? ⟨gb105, 4, none⟩ = some (.slice A0_4 l0_4.length c0_4) := (blk_cell BK105.out 4).trans rfl
          have hfz37_0 := blk_frozen BK105.out 0
          have hfz37_1 := blk_frozen BK105.out 1
          have hfz37_2 := blk_frozen BK105.out 2
          have hfz37_3 := blk_frozen BK105.out 3
          have hfz37_4 := blk_frozen BK105.out 4
          go_wp2
          repeat (go_quiet (fail); try go_wp2)
          go_ret
          exact ⟨q9_, by repeat (first | (with_reducible first | exact HB.out | apply below_alloc | apply pw_below_drewN | apply below_drew1 | refine below_set ?_ GE105.out) | exact HB.out)⟩
        ·rw [if_neg c34] at H
         have c34b0 : (a0_2.toList == ([] : List UInt8)) = false := beq_eq_false_iff_ne.mpr c34
         have c34b1 : (a0_2.toList != ([] : List UInt8)) = true := bne_iff_ne.mpr c34
         obtain rfl := Option.some.inj H
         have hcz38_0 : wc.cell? ⟨gb105, 0, none⟩ = some (.int .i64 a0_0) := (blk_cell BK105.out 0).trans rfl
         have hcz38_1 : wc.cell? ⟨gb105, 1, none⟩ = some (.string a0_1) := (blk_cell BK105.out 1).trans rfl
         have hcz38_2 : wc.cell? ⟨gb105, 2, none⟩ = some (.string a0_2) := (blk_cell BK105.out 2).trans rfl
         have hcz38_3 : wc.cell? ⟨gb105, 3, none⟩ = some (.int .i64 a0_3) := (blk_cell BK105.out 3).trans rfl
         have hcz38_4 : wc.cell? ⟨gb105, 4, none⟩ = some (.slice A0_4 l0_4.length c0_4) := (blk_cell BK105.out 4).trans rfl
         have hfz38_0 := blk_frozen BK105.out 0
         have hfz38_1 := blk_frozen BK105.out 1
         have hfz38_2 := blk_frozen BK105.out 2
         have hfz38_3 := blk_frozen BK105.out 3
         have hfz38_4 := blk_frozen BK105.out 4
         go_wp2
         repeat (go_quiet (fail); try go_wp2)
         go_ret
         exact ⟨q9_, by repeat (first | (with_reducible first | exact HB.out | apply below_alloc | apply pw_below_drewN | apply below_drew1 | refine below_set ?_ GE105.out) | exact HB.out)⟩
       ·rw [if_neg c33] at H
        have c33b0 : decide (0 ≤ a0_3) = false := decide_eq_false c33
        clear c33
        by_cases c39 : a0_2.toList = ([] : List UInt8)
        ·rw [if_pos c39] at H
         have c39b0 : (a0_2.toList == ([] : List UInt8)) = true := beq_iff_eq.mpr c39
         have c39b1 : (a0_2.toList != ([] : List UInt8)) = false := bne_eq_false_iff_eq.mpr c39
         clear c39
         obtain rfl := Option.some.inj H
         have hcz40_0 : wc.cell? ⟨gb105, 0, none⟩ = some (.int .i64 a0_0) := (blk_cell BK105.out 0).trans rfl
         have hcz40_1 : wc.cell? ⟨gb105, 1, none⟩ = some (.string a0_1) := (blk_cell BK105.out 1).trans rfl
         have hcz40_2 : wc.cell? ⟨gb105, 2, none⟩ = some (.string a0_2) := (blk_cell BK105.out 2).trans rfl
         have hcz40_3 : wc.cell? ⟨gb105, 3, none⟩ = some (.int .i64 a0_3) := (blk_cell BK105.out 3).trans rfl
         have hcz40_4 : wc.cell? ⟨gb105, 4, none⟩ = some (.slice A0_4 l0_4.length c0_4) := (blk_cell BK105.out 4).trans rfl
         have hfz40_0 := blk_frozen BK105.out 0
         have hfz40_1 := blk_frozen BK105.out 1
         have hfz40_2 := blk_frozen BK105.out 2
         have hfz40_3 := blk_frozen BK105.out 3
         have hfz40_4 := blk_frozen BK105.out 4
         go_wp2
         repeat (go_quiet (fail); try go_wp2)
         go_ret
         exact ⟨q9_, by repeat (first | (with_reducible first | exact HB.out | apply below_alloc | apply pw_below_drewN | apply below_drew1 | refine below_set ?_ GE105.out) | exact HB.out)⟩
        ·rw [if_neg c39] at H
         have c39b0 : (a0_2.toList == ([] : List UInt8)) = false := beq_eq_false_iff_ne.mpr c39
         have c39b1 : (a0_2.toList != ([] : List UInt8)) = true := bne_iff_ne.mpr c39
         obtain rfl := Option.some.inj H
         have hcz41_0 : wc.cell? ⟨gb105, 0, none⟩ = some (.int .i64 a0_0) := (blk_cell BK105.out 0).trans rfl
         have hcz41_1 : wc.cell? ⟨gb105, 1, none⟩ = some (.string a0_1) := (blk_cell BK105.out 1).trans rfl
         have hcz41_2 : wc.cell? ⟨gb105, 2, none⟩ = some (.string a0_2) := (blk_cell BK105.out 2).trans rfl
         have hcz41_3 : wc.cell? ⟨gb105, 3, none⟩ = some (.int .i64 a0_3) := (blk_cell BK105.out 3).trans rfl
         have hcz41_4 : wc.cell? ⟨gb105, 4, none⟩ = some (.slice A0_4 l0_4.length c0_4) := (blk_cell BK105.out 4).trans rfl
         have hfz41_0 := blk_frozen BK105.out 0
         have hfz41_1 := blk_frozen BK105.out 1
         have hfz41_2 := blk_frozen BK105.out 2
         have hfz41_3 := blk_frozen BK105.out 3
         have hfz41_4 := blk_frozen BK105.out 4
         go_wp2
         repeat (go_quiet (fail); try go_wp2)
         go_ret
         exact ⟨q9_, by repeat (first | (with_reducible first | exact HB.out | apply below_alloc | apply pw_below_drewN | apply below_drew1 | refine below_set ?_ GE105.out) | exact HB.out)⟩
     ·rw [if_neg c22] at H
      have c22b0 : (a0_0 == 4) = false := beq_eq_false_iff_ne.mpr c22
      have c22b1 : (a0_0 != 4) = true := bne_iff_ne.mpr c22
      by_cases c42 : a0_0 = 5
      ·rw [if_pos c42] at H
       have c42b0 : (a0_0 == 5) = true := beq_iff_eq.mpr c42
       have c42b1 : (a0_0 != 5) = false := bne_eq_false_iff_eq.mpr c42
       clear c42
       by_cases c43 : a0_3 ≥ 0
       ·rw [if_pos c43] at H
        have c43b0 : decide (0 ≤ a0_3) = true := decide_eq_true c43
        clear c43
        by_cases c44 : a0_2.toList = ([] : List UInt8)
        ·rw [if_pos c44] at H
         have c44b0 : (a0_2.toList == ([] : List UInt8)) = true := beq_iff_eq.mpr c44
         have c44b1 : (a0_2.toList != ([] : List UInt8)) = false := bne_eq_false_iff_eq.mpr c44
         clear c44
         by_cases c45 : a0_3 ≤ 8192
         ·rw [if_pos c45] at H
          have c45b0 : decide (a0_3 ≤ 8192) = true := decide_eq_true c45
          clear c45
          obtain rfl := Option.some.inj H
          have hcz46_0 : wc.cell? ⟨gb105, 0, none⟩ = some (.int .i64 a0_0) := (blk_cell BK105.out 0).trans rfl
          have hcz46_1 : wc.cell? ⟨gb105, 1, none⟩ = some (.string a0_1) := (blk_cell BK105.out 1).trans rfl
          have hcz46_2 : wc.cell? ⟨gb105, 2, none⟩ = some (.string a0_2) := (blk_cell BK105.out 2).trans rfl
          have hcz46_3 : wc.cell? ⟨gb105, 3, none⟩ = some (.int .i64 a0_3) := (blk_cell BK105.out 3).trans rfl
          have hcz46_4 : wc.cell? ⟨gb105, 4, none⟩ = some (.slice A0_4 l0_4.length c0_4) := (blk_cell BK105.out 4).trans rfl
          have hfz46_0 := blk_frozen BK105.out 0
          have hfz46_1 := blk_frozen BK105.out 1
          have hfz46_2 := blk_frozen BK105.out 2
          have hfz46_3 := blk_frozen BK105.out 3
          have hfz46_4 := blk_frozen BK105.out 4
          go_wp2
          repeat (go_quiet (fail); try go_wp2)
          go_ret
          exact ⟨q9_, by repeat (first | (with_reducible first | exact HB.out | apply below_alloc | apply pw_below_drewN | apply below_drew1 | refine below_set ?_ GE105.out) | exact HB.out)⟩
         ·rw [if_neg c45] at H
          have c45b0 : decide (a0_3 ≤ 8192) = false := decide_eq_false c45
          clear c45
          obtain rfl := Option.some.inj H
          have hcz47_0 : wc.cell? ⟨gb105, 0, none⟩ = some (.int .i64 a0_0) := (blk_cell BK105.out 0).trans rfl
          have hcz47_1 : wc.cell? ⟨gb105, 1, none⟩ = some (.string a0_1) := (blk_cell BK105.out 1).trans rfl
          have hcz47_2 : wc.cell? ⟨gb105, 2, none⟩ = some (.string a0_2) := (blk_cell BK105.out 2).trans rfl
          have hcz47_3 : wc.cell? ⟨gb105, 3, none⟩ = some (.int .i64 a0_3) := (blk_cell BK105.out 3).trans rfl
          have hcz47_4 : wc.cell? ⟨gb105, 4, none⟩ = some (.slice A0_4 l0_4.length c0_4) := (blk_cell BK105.out 4).trans rfl
          have hfz47_0 := blk_frozen BK105.out 0
          have hfz47_1 := blk_frozen BK105.out 1
          have hfz47_2 := blk_frozen BK105.out 2
          have hfz47_3 := blk_frozen BK105.out 3
          have hfz47_4 := blk_frozen BK105.out 4
          go_wp2
          repeat (go_quiet (fail); try go_wp2)
          go_ret
          exact ⟨q9_, by repeat (first | (with_reducible first | exact HB.out | apply below_alloc | apply pw_below_drewN | apply below_drew1 | refine below_set ?_ GE105.out) | exact HB.out)⟩
        ·rw [if_neg c44] at H
         have c44b0 : (a0_2.toList == ([] : List UInt8)) = false := beq_eq_false_iff_ne.mpr c44
         have c44b1 : (a0_2.toList != ([] : List UInt8)) = true := bne_iff_ne.mpr c44
         obtain rfl := Option.some.inj H
         have hcz48_0 : wc.cell? ⟨gb105, 0, none⟩ = some (.int .i64 a0_0) := (blk_cell BK105.out 0).trans rfl
         have hcz48_1 : wc.cell? ⟨gb105, 1, none⟩ = some (.string a0_1) := (blk_cell BK105.out 1).trans rfl
         have hcz48_2 : wc.cell? ⟨gb105, 2, none⟩ = some (.string a0_2) := (blk_cell BK105.out 2).trans rfl
         have hcz48_3 : wc.cell? ⟨gb105, 3, none⟩ = some (.int .i64 a0_3) := (blk_cell BK105.out 3).trans rfl
         have hcz48_4 : wc.cell? ⟨gb105, 4, none⟩ = some (.slice A0_4 l0_4.length c0_4) := (blk_cell BK105.out 4).trans rfl
         have hfz48_0 := blk_frozen BK105.out 0
         have hfz48_1 := blk_frozen BK105.out 1
         have hfz48_2 := blk_frozen BK105.out 2
         have hfz48_3 := blk_frozen BK105.out 3
         have hfz48_4 := blk_frozen BK105.out 4
         go_wp2
         repeat (go_quiet (fail); try go_wp2)
         go_ret
         exact ⟨q9_, by repeat (first | (with_reducible first | exact HB.out | apply below_alloc | apply pw_below_drewN | apply below_drew1 | refine below_set ?_ GE105.out) | exact HB.out)⟩
       ·rw [if_neg c43] at H
        have c43b0 : decide (0 ≤ a0_3) = false := decide_eq_false c43
        clear c43
        by_cases c49 : a0_2.toList = ([] : List UInt8)
        ·rw [if_pos c49] at H
         have c49b0 : (a0_2.toList == ([] : List UInt8)) = true := beq_iff_eq.mpr c49
         have c49b1 : (a0_2.toList != ([] : List UInt8)) = false := bne_eq_false_iff_eq.mpr c49
         clear c49
         obtain rfl := Option.some.inj H
         have hcz50_0 : wc.cell? ⟨gb105, 0, none⟩ = some (.int .i64 a0_0) := (blk_cell BK105.out 0).trans rfl
         have hcz50_1 : wc.cell? ⟨gb105, 1, none⟩ = some (.string a0_1) := (blk_cell BK105.out 1).trans rfl
         have hcz50_2 : wc.cell? ⟨gb105, 2, none⟩ = some (.string a0_2) := (blk_cell BK105.out 2).trans rfl
         have hcz50_3 : wc.cell? ⟨gb105, 3, none⟩ = some (.int .i64 a0_3) := (blk_cell BK105.out 3).trans rfl
         have hcz50_4 : wc.cell? ⟨gb105, 4, none⟩ = some (.slice A0_4 l0_4.length c0_4) := (blk_cell BK105.out 4).trans rfl
         have hfz50_0 := blk_frozen BK105.out 0
         have hfz50_1 := blk_frozen BK105.out 1
         have hfz50_2 := blk_frozen BK105.out 2
         have hfz50_3 := blk_frozen BK105.out 3
         have hfz50_4 := blk_frozen BK105.out 4
         go_wp2
         repeat (go_quiet (fail); try go_wp2)
         go_ret
         exact ⟨q9_, by repeat (first | (with_reducible first | exact HB.out | apply below_alloc | apply pw_below_drewN | apply below_drew1 | refine below_set ?_ GE105.out) | exact HB.out)⟩
        ·rw [if_neg c49] at H
         have c49b0 : (a0_2.toList == ([] : List UInt8)) = false := beq_eq_false_iff_ne.mpr c49
         have c49b1 : (a0_2.toList != ([] : List UInt8)) = true := bne_iff_ne.mpr c49
         obtain rfl := Option.some.inj H
         have hcz51_0 : wc.cell? ⟨gb105, 0, none⟩ = some (.int .i64 a0_0) := (blk_cell BK105.out 0).trans rfl
         have hcz51_1 : wc.cell? ⟨gb105, 1, none⟩ = some (.string a0_1) := (blk_cell BK105.out 1).trans rfl
         have hcz51_2 : wc.cell? ⟨gb105, 2, none⟩ = some (.string a0_2) := (blk_cell BK105.out 2).trans rfl
         have hcz51_3 : wc.cell? ⟨gb105, 3, none⟩ = some (.int .i64 a0_3) := (blk_cell BK105.out 3).trans rfl
         have hcz51_4 : wc.cell? ⟨gb105, 4, none⟩ = some (.slice A0_4 l0_4.length c0_4) := (blk_cell BK105.out 4).trans rfl
         have hfz51_0 := blk_frozen BK105.out 0
         have hfz51_1 := blk_frozen BK105.out 1
         have hfz51_2 := blk_frozen BK105.out 2
         have hfz51_3 := blk_frozen BK105.out 3
         have hfz51_4 := blk_frozen BK105.out 4
         go_wp2
         repeat (go_quiet (fail); try go_wp2)
         go_ret
         exact ⟨q9_, by repeat (first | (with_reducible first | exact HB.out | apply below_alloc | apply pw_below_drewN | apply below_drew1 | refine below_set ?_ GE105.out) | exact HB.out)⟩
      ·rw [if_neg c42] at H
       have c42b0 : (a0_0 == 5) = false := beq_eq_false_iff_ne.mpr c42
       have c42b1 : (a0_0 != 5) = true := bne_iff_ne.mpr c42
       by_cases c52 : a0_2.toList = ([] : List UInt8)
       ·rw [if_pos c52] at H
        have c52b0 : (a0_2.toList == ([] : List UInt8)) = true := beq_iff_eq.mpr c52
        have c52b1 : (a0_2.toList != ([] : List UInt8)) = false := bne_eq_false_iff_eq.mpr c52
        clear c52
        by_cases c53 : a0_3 = 0
        ·rw [if_pos c53] at H
         have c53b0 : (a0_3 == 0) = true := beq_iff_eq.mpr c53
         have c53b1 : (a0_3 != 0) = false := bne_eq_false_iff_eq.mpr c53
         clear c53
         obtain rfl := Option.some.inj H
         have hcz54_0 : wc.cell? ⟨gb105, 0, none⟩ = some (.int .i64 a0_0) := (blk_cell BK105.out 0).trans rfl
         have hcz54_1 : wc.cell? ⟨gb105, 1, none⟩ = some (.string a0_1) := (blk_cell BK105.out 1).trans rfl
         have hcz54_2 : wc.cell? ⟨gb105, 2, none⟩ = some (.string a0_2) := (blk_cell BK105.out 2).trans rfl
         have hcz54_3 : wc.cell? ⟨gb105, 3, none⟩ = some (.int .i64 a0_3) := (blk_cell BK105.out 3).trans rfl
         have hcz54_4 : wc.cell? ⟨gb105, 4, none⟩ = some (.slice A0_4 l0_4.length c0_4) := (blk_cell BK105.out 4).trans rfl
         have hfz54_0 := blk_frozen BK105.out 0
         have hfz54_1 := blk_frozen BK105.out 1
         have hfz54_2 := blk_frozen BK105.out 2
         have hfz54_3 := blk_frozen BK105.out 3
         have hfz54_4 := blk_frozen BK105.out 4
         go_wp2
         repeat (go_quiet (fail); try go_wp2)
         go_ret
         exact ⟨q9_, by repeat (first | (with_reducible first | exact HB.out | apply below_alloc | apply pw_below_drewN | apply below_drew1 | refine below_set ?_ GE105.out) | exact HB.out)⟩
        ·rw [if_neg c53] at H
         have c53b0 : (a0_3 == 0) = false := beq_eq_false_iff_ne.mpr c53
         have c53b1 : (a0_3 != 0) = true := bne_iff_ne.mpr c53
         obtain rfl := Option.some.inj H
         have hcz55_0 : wc.cell? ⟨gb105, 0, none⟩ = some (.int .i64 a0_0) := (blk_cell BK105.out 0).trans rfl
         have hcz55_1 : wc.cell? ⟨gb105, 1, none⟩ = some (.string a0_1) := (blk_cell BK105.out 1).trans rfl
         have hcz55_2 : wc.cell? ⟨gb105, 2, none⟩ = some (.string a0_2) := (blk_cell BK105.out 2).trans rfl
         have hcz55_3 : wc.cell? ⟨gb105, 3, none⟩ = some (.int .i64 a0_3) := (blk_cell BK105.out 3).trans rfl
         have hcz55_4 : wc.cell? ⟨gb105, 4, none⟩ = some (.slice A0_4 l0_4.length c0_4) := (blk_cell BK105.out 4).trans rfl
         have hfz55_0 := blk_frozen BK105.out 0
         have hfz55_1 := blk_frozen BK105.out 1
         have hfz55_2 := blk_frozen BK105.out 2
         have hfz55_3 := blk_frozen BK105.out 3
         have hfz55_4 := blk_frozen BK105.out 4
         go_wp2
         repeat (go_quiet (fail); try go_wp2)
         go_ret
         exact ⟨q9_, by repeat (first | (with_reducible first | exact HB.out | apply below_alloc | apply pw_below_drewN | apply below_drew1 | refine below_set ?_ GE105.out) | exact HB.out)⟩
       ·rw [if_neg c52] at H
        have c52b0 : (a0_2.toList == ([] : List UInt8)) = false := beq_eq_false_iff_ne.mpr c52
        have c52b1 : (a0_2.toList != ([] : List UInt8)) = true := bne_iff_ne.mpr c52
        obtain rfl := Option.some.inj H
        have hcz56_0 : wc.cell? ⟨gb105, 0, none⟩ = some (.int .i64 a0_0) := (blk_cell BK105.out 0).trans rfl
        have hcz56_1 : wc.cell? ⟨gb105, 1, none⟩ = some (.string a0_1) := (blk_cell BK105.out 1).trans rfl
        have hcz56_2 : wc.cell? ⟨gb105, 2, none⟩ = some (.string a0_2) := (blk_cell BK105.out 2).trans rfl
        have hcz56_3 : wc.cell? ⟨gb105, 3, none⟩ = some (.int .i64 a0_3) := (blk_cell BK105.out 3).trans rfl
        have hcz56_4 : wc.cell? ⟨gb105, 4, none⟩ = some (.slice A0_4 l0_4.length c0_4) := (blk_cell BK105.out 4).trans rfl
        have hfz56_0 := blk_frozen BK105.out 0
        have hfz56_1 := blk_frozen BK105.out 1
        have hfz56_2 := blk_frozen BK105.out 2
        have hfz56_3 := blk_frozen BK105.out 3
        have hfz56_4 := blk_frozen BK105.out 4
        go_wp2
        repeat (go_quiet (fail); try go_wp2)
        go_ret
        exact ⟨q9_, by repeat (first | (with_reducible first | exact HB.out | apply below_alloc | apply pw_below_drewN | apply below_drew1 | refine below_set ?_ GE105.out) | exact HB.out)⟩
/-- slices.Grow of nil: an empty row with room. -/
theorem slices_Grow.nil (n : Int) (h0 : 0 ≤ n) (hn : n ≤ 140737488355328) (w : World) :
  Calls Tryd.prog 69 #[.slice none 0 0, .int .i64 n] w fun e w' => ∃ v, e = .returned v ∧ Kd.R (Kd.int .u8) 5 w' w.heap.size (fun _ => True) v [] ∧ Below w.heap.size w w' := by
 by_cases hz : n = 0
 ·subst hz
  go_enter Tryd.func69, Tryd.ntmps69
  go_wp2
  go_ret
  exact ⟨_, rfl, Kd.R_nil _ _ _ _ _, Below.refl _ _⟩
 ·have hpos : 0 < n := by omega
  clear hz
  go_enter Tryd.func69, Tryd.ntmps69
  go_wp2_with (first | (refine Kd.R_append_zeros (Kd.int .u8) (w0 := w) w.heap.size rfl (.tmp 20) (.tmp 21) 35 3 5 (.int .u8 0) 1 rfl Tryd.underlying35 Tryd.underlying3 info5 rfl q81_ (by omega) (.slice none 0 0) [] 0 n (fun _ => True) rfl rfl rfl (fun _ _ => trivial) (Kd.R_nil _ _ _ _ _) h0 (Below.refl _ _) (Nat.le_refl _) (by simp; omega) ?_; intro v1 w1 ho hb _ _; have HO := Aside0.mk ho; have HB := Aside0.mk hb; clear ho hb; obtain ⟨A1, c1, he1⟩ := Kd.R_slice HO.out; subst he1; obtain ⟨i0, hi0, _, hs0, _⟩ := info_parts info5; have hcut := cut_to (P := Tryd.prog) 35 5 .i64 Tryd.underlying35 hi0 A1 _ c1 0 (by omega) (by omega) (Kd.R_reads' HO.out).2.1))
  go_ret
  exact ⟨_, rfl, Kd.R_take (m := 0) HO.out (Nat.zero_le _), HB.out⟩
/-- A row of rows that is read: its element k. -/
theorem rows_at {α : Type} {d : Kd α} {e : Nat} {w : World} {A : Option Addr} {n : Nat} {ls : List (List α)} (h : Kd.C (Kd.slice e d) w A n ls) (k : Nat) (hk : k < ls.length) :
  ∃ ad A' c', A = some ad ∧ w.cell? (ad.add k) = some (.slice A' ls[k].length c') ∧ ls[k].length ≤ c' ∧ Kd.C d w A' ls[k].length ls[k] := by
 obtain ⟨hl, _, hc⟩ := h
 obtain ⟨ad, he, hg⟩ := hc (by omega)
 obtain ⟨cs, h1, ⟨A', c', rfl, h2, h3⟩, h4⟩ := hg k ls[k] (List.getElem?_eq_getElem hk)
 refine ⟨ad, A', c', he, ?_, h2, h3⟩
 have := h4 0 _ rfl
 simpa [Kd.slice] using this
def lensum (ls : List (List Int)) : Nat := (ls.map List.length).sum
theorem lensum_append (a b : List (List Int)) : lensum (a ++ b) = lensum a + lensum b := by simp [lensum]
theorem lensum_take (ls : List (List Int)) (k : Nat) (h : k < ls.length) : lensum (ls.take (k + 1)) = lensum (ls.take k) + ls[k].length := by
 rw [List.take_succ_eq_append_getElem h, lensum_append]
 rfl
theorem lensum_le (ls : List (List Int)) (k : Nat) : lensum (ls.take k) ≤ lensum ls := by
 have h : lensum ls = lensum (ls.take k) + lensum (ls.drop k) := by rw [← lensum_append, List.take_append_drop]
 omega
theorem flatten_take (ls : List (List Int)) (k : Nat) (h : k < ls.length) : (ls.take (k + 1)).flatten = (ls.take k).flatten ++ ls[k] := by
 rw [List.take_succ_eq_append_getElem h, List.flatten_append, List.flatten_singleton]
theorem flatten_len (ls : List (List Int)) : ls.flatten.length = lensum ls := by simp [lensum, List.length_flatten]
set_option maxHeartbeats 1000000 in
theorem slices_Concat.calls (A : Option Addr) (c : Nat) (ls : List (List Int)) (w : World) (hr : Kd.C (Kd.slice 5 (Kd.int .u8)) w A ls.length ls) (hl : lensum ls ≤ 140737488355328) :
  Calls Tryd.prog 60 #[.slice A ls.length c] w fun e w' => ∃ v, e = .returned v ∧ Kd.R (Kd.int .u8) 5 w' w.heap.size (fun _ => True) v ls.flatten ∧ Below w.heap.size w w' := by
 have HR := Aside0.mk hr
 have HM := Aside0.mk hr.2.1
 have HL := Aside0.mk hl
 clear hr hl
 go_enter Tryd.func60, Tryd.ntmps60
 go_wp2
 go_loop [3, 11] (fun s i => ∃ k : Nat, k ≤ ls.length ∧ i = .int .i64 k ∧ s = .int .i64 (lensum (ls.take k) : Nat)) (fun _ i => ls.length - (intOf i).toNat)
 case atStart => exact ⟨0, by omega, rfl, rfl⟩
 case round =>
  obtain ⟨k, hk, rfl, rfl⟩ := hrel
  have hm := HM.out
  have hs1 : lensum (ls.take k) ≤ 140737488355328 := Nat.le_trans (lensum_le ls k) HL.out
  by_cases hlt : k < ls.length
  ·have hs2 : lensum (ls.take k) + ls[k].length ≤ 140737488355328 := by rw [← lensum_take ls k hlt]; exact Nat.le_trans (lensum_le ls (k + 1)) HL.out
   have HS := Aside0.mk (lensum_take ls k hlt)
   obtain ⟨ad, A1, c1, rfl, hcell, hc1, hC⟩ := rows_at HR.out k hlt
   have HC := Aside0.mk hC
   clear hC
   go_wp2
   go_round
   case rel => exact ⟨k + 1, by omega, by go_num, by rw [HS.out]; go_num⟩
   case measure => simp [intOf]; omega
  ·obtain rfl : k = ls.length := by omega
   rw [List.take_length] at *
   go_wp2_with (go_at_call 69; refine (slices_Grow.nil _ (by omega) (by omega) _).mono ?_; rintro e w1 ⟨v1, rfl, ho, hb⟩; have HO := Aside0.mk ho; have HB := Aside0.mk hb; clear ho hb)
   go_loopw [6, 27] (fun v i wr => ∃ k : Nat, k ≤ ls.length ∧ i = .int .i64 k ∧ Aside0 (Kd.R (Kd.int .u8) 5 wr w.heap.size (fun _ => True) v (ls.take k).flatten) ∧ Aside0 (Below w.heap.size w wr)) (fun _ i _ => ls.length - (intOf i).toNat)
   case atStart => exact ⟨0, by omega, rfl, HO, HB⟩
   case round =>
    clear HO HB
    obtain ⟨k, hk, rfl, HO, HB⟩ := hrel
    by_cases hlt : k < ls.length
    ·obtain ⟨ad, A1, c1, rfl, hcell, hc1, hC⟩ := rows_at (Kd.C_below HR.out HB.out) k hlt
     have HC := Aside0.mk hC
     have HF := Aside0.mk (flatten_take ls k hlt)
     have HS := Aside0.mk (show (ls.take k).flatten.length + ls[k].length ≤ 140737488355328 from by
      rw [flatten_len, ← lensum_take ls k hlt]; exact Nat.le_trans (lensum_le ls (k + 1)) HL.out)
     clear hC
     go_wp2_with (first | ((with_reducible refine gate_builtin (b := .append) (xs := #[.tmp 31, .tmp 32]) rfl ?_); at_builtin; refine Kd.R_append_rows (Kd.int .u8) (w0 := w) w.heap.size rfl (.tmp 31) (.tmp 32) 35 5 (.int .u8 0) 1 rfl Tryd.underlying35 info5 rfl q81_ (by omega) _ _ ls[k] _ _ _ (fun _ => True) (fun _ => False) rfl rfl HO.out HC.out (fun _ _ h => h) (fun _ h => h.elim) (fun _ _ => trivial) HB.out HB.out.size (by have := HS.out; omega) ?_; intro v1 w2 ho hb _ _; have HO2 := Aside0.mk ho; have HB2 := Aside0.mk hb; clear ho hb))
     go_roundw
     case rel => exact ⟨k + 1, by omega, by go_num, by rw [HF.out]; exact HO2, HB2⟩
     case measure => simp [intOf]; omega
    ·obtain rfl : k = ls.length := by omega
     rw [List.take_length] at HO
     go_wp2
     go_ret
     exact ⟨_, rfl, HO.out, HB.out⟩
theorem rows_two {α : Type} {d : Kd α} {e t : Nat} {W : World} {A0 A1 : Option Addr} {c0 c1 : Nat} {l0 l1 : List α} (h0 : Kd.C d W A0 l0.length l0) (hc0 : l0.length ≤ c0) (h1 : Kd.C d W A1 l1.length l1) (hc1 : l1.length ≤ c1) :
  Kd.C (Kd.slice e d) (W.alloc (.cells #[.slice A0 l0.length c0, .slice A1 l1.length c1] t)) (some ⟨W.heap.size, 0, none⟩) 2 [l0, l1] := by
 refine ⟨rfl, by omega, fun _ => ⟨_, rfl, fun j p hj => ?_⟩⟩
 have cell : ∀ i, (W.alloc (.cells #[Value.slice A0 l0.length c0, .slice A1 l1.length c1] t)).cell? ((⟨W.heap.size, 0, none⟩ : Addr).add i) = (#[Value.slice A0 l0.length c0, .slice A1 l1.length c1] : Array Value)[i]? := fun i => by
  rw [add_plain, cell_of_row _ _ _ _ _ _ (heap_alloc_new W _)]
 rcases j with _ | _ | j
 ·obtain rfl : l0 = p := by simpa using hj
  refine ⟨[.slice A0 l0.length c0], rfl, ⟨A0, c0, rfl, hc0, Kd.C_alloc h0 _⟩, fun i u hu => ?_⟩
  rcases i with _ | i
  ·rw [cell]; exact hu
  ·simp at hu
 ·obtain rfl : l1 = p := by simpa using hj
  refine ⟨[.slice A1 l1.length c1], rfl, ⟨A1, c1, rfl, hc1, Kd.C_alloc h1 _⟩, fun i u hu => ?_⟩
  rcases i with _ | i
  ·rw [cell]; exact hu
  ·simp at hu
 ·simp at hj
def num_join.f (l0 l1 : List Int) : Option (List Int) := if l0.length + l1.length ≤ 140737488355328 then some (l0 ++ l1) else none
theorem num_join.calls (A0 : Option Addr) (c0 : Nat) (l0 : List Int) (A1 : Option Addr) (c1 : Nat) (l1 : List Int) (r : List Int) (w : World) (hr0 : Kd.C (Kd.int .u8) w A0 l0.length l0) (hc0 : l0.length ≤ c0) (hr1 : Kd.C (Kd.int .u8) w A1 l1.length l1) (hc1 : l1.length ≤ c1) (h : num_join.f l0 l1 = some r) :
  Calls Tryd.prog 47 #[.slice A0 l0.length c0, .slice A1 l1.length c1] w fun e w' => ∃ v0_ : Value, e = .returned (v0_) ∧ Kd.R (Kd.int .u8) 5 w' w.heap.size (fun _ => True) v0_ r ∧ Below w.heap.size w w' := by
 have hl : l0.length + l1.length ≤ 140737488355328 := by
  unfold num_join.f at h
  split at h
  ·assumption
  ·cases h
 have hr : r = l0 ++ l1 := by
  unfold num_join.f at h
  rw [if_pos hl] at h
  exact (Option.some.inj h).symm
 have hC := rows_two (e := 5) (t := 35) hr0 hc0 hr1 hc1
 have HX := Aside0.mk (slices_Concat.calls _ 2 _ _ hC (by simp only [lensum, List.map_cons, List.map_nil, List.sum_cons, List.sum_nil]; omega))
 have HB := Aside0.mk ((Below.refl w.heap.size w).alloc (Nat.le_refl _) (.cells #[.slice A0 l0.length c0, .slice A1 l1.length c1] 35))
 subst hr
 clear h hr0 hc0 hr1 hc1 hC hl
 go_enter Tryd.func47, Tryd.ntmps47
 go_wp2_with (go_at_call 60; refine HX.out.mono ?_; rintro e w1 ⟨v1, rfl, ho, hb⟩; have HO := Aside0.mk ho; have HB1 := Aside0.mk hb; clear ho hb)
 go_ret
 exact ⟨_, rfl, Kd.R_lower (by simpa using HO.out) HB.out.size, below_step HB.out HB1.out⟩
/-- Byte i of eight, the greatest first. -/
def eighth (x : Int) (i : Nat) : Int := IntKind.u64.wrap x / 2 ^ (8 * (7 - i)) % 256
def row8 (x : Int) (k : Nat) : Array Value := ((List.range 8).map fun i => if i < k then Value.int .u8 (eighth x i) else .int .u8 0).toArray
theorem row8_get (x : Int) (k : Nat) (h : k < 8) : (row8 x k)[k]? = some (.int .u8 0) := by simp [row8, h]
theorem row8_set (x : Int) (k : Nat) (h : k < 8) : (row8 x k).setIfInBounds k (.int .u8 (eighth x k)) = row8 x (k + 1) := by
 apply Array.ext
 ·simp [row8]
 ·intro i h1 h2
  simp [row8, List.getElem_set]
  by_cases e : k = i
  ·subst e; simp
  ·have : i < k + 1 ↔ i < k := by omega
   simp [e, this]
/-- The last n of the eight bytes. -/
def eights (x : Int) (n : Nat) : List Int := (List.range n).map fun i => eighth x (8 - n + i)
theorem eights_length (x : Int) (n : Nat) : (eights x n).length = n := by simp [eights]
theorem row8_reads (W : World) (g : Nat) (x : Int) (n : Nat) (t : TypeId) (h1 : 1 ≤ n) (h8 : n ≤ 8) (hg : W.heap[g]? = some (.cells (row8 x 8) t (0, 0))) : Kd.C (Kd.int .u8) W (some ⟨g, 8 - n, none⟩) (eights x n).length (eights x n) := by
 refine ⟨rfl, by rw [eights_length]; omega, fun _ => ⟨_, rfl, fun j p hj => ⟨[.int .u8 p], rfl, rfl, fun i u hu => ?_⟩⟩⟩
 have hi : i = 0 := by
  rcases i with _ | i
  ·rfl
  ·simp at hu
 subst hi
 simp at hu
 subst hu
 obtain ⟨hlt, hp⟩ := List.getElem?_eq_some_iff.1 hj
 rw [eights_length] at hlt
 have ha : (⟨g, 8 - n, none⟩ : Addr).add (j * (Kd.int IntKind.u8).sz + 0) = ⟨g, 8 - n + j, none⟩ := by
  show (⟨g, 8 - n, none⟩ : Addr).add (j * 1 + 0) = _
  unfold Addr.add
  split
  ·have : j = 0 := by omega
   subst this; simp
  ·simp
 rw [ha, cell_of_row _ _ _ _ _ _ hg]
 have : 8 - n + j < 8 := by omega
 simp [row8, this]
 rw [← hp]
 simp [eights]
set_option maxHeartbeats 400000 in
def num_Put.f (l0 : List Int) (x n : Int) : Option (List Int) := num_join.f l0 (if n < 1 ∨ 8 < n then [] else eights x n.toNat)
theorem num_Put.calls (A0 : Option Addr) (c0 : Nat) (l0 : List Int) (x n : Int) (r : List Int) (w : World) (hr0 : Kd.C (Kd.int .u8) w A0 l0.length l0) (hc0 : l0.length ≤ c0) (h : num_Put.f l0 x n = some r) :
  Calls Tryd.prog 30 #[.slice A0 l0.length c0, .int .i64 x, .int .i64 n] w fun e w' => ∃ v0_ : Value, e = .returned (v0_) ∧ Kd.R (Kd.int .u8) 5 w' w.heap.size (fun _ => True) v0_ r ∧ Below w.heap.size w w' := by
 have HR0 := Aside0.mk hr0
 have HC0 := Aside0.mk hc0
 unfold num_Put.f at h
 by_cases hbad : n < 1 ∨ 8 < n
 ·rw [if_pos hbad] at h
  have H := Aside0.mk h
  clear hr0 hc0 h
  rcases hbad with hbad | hbad
  all_goals
   go_enter Tryd.func30, Tryd.ntmps30
   go_wp2_with (go_at_call 47; refine (num_join.calls _ _ l0 none 0 [] r _ HR0.out HC0.out (Kd.C_nil _ _) (Nat.le_refl _) H.out).mono ?_; rintro e w1 ⟨v1, rfl, ho, hb⟩; have HO := Aside0.mk ho; have HB1 := Aside0.mk hb; clear ho hb)
   go_ret
   exact ⟨_, rfl, HO.out, HB1.out⟩
 ·rw [if_neg hbad] at h
  have H := Aside0.mk h
  clear hr0 hc0 h
  have h1 : 1 ≤ n := by omega
  have h8 : n ≤ 8 := by omega
  clear hbad
  go_enter Tryd.func30, Tryd.ntmps30
  go_wp2
  go_loopw [17] (fun i wr => ∃ k : Nat, k ≤ 8 ∧ i = .int .i64 k ∧ wr = w.alloc (.cells (row8 x k) 77)) (fun i _ => 8 - (intOf i).toNat)
  case atStart => exact ⟨0, by omega, rfl, rfl⟩
  case round =>
   obtain ⟨k, hk, rfl, rfl⟩ := hrel
   by_cases hlt : k < 8
   ·have hcell := row8_get x k hlt
    go_wp2
    go_roundw
    case rel => exact ⟨k + 1, by omega, by go_num, by rw [← row8_set x k hlt]; rfl⟩
    case measure => simp [intOf]; omega
   ·obtain rfl : k = 8 := by omega
    clear hk hlt
    obtain ⟨m, rfl⟩ : ∃ m : Nat, n = m := ⟨n.toNat, by omega⟩
    have hcut0 := fun W => Own.run_array_from (P := Tryd.prog) 77 5 8 Tryd.underlying77 q18_ w.heap.size .i64 (8 - (m : Int)) (8 - m) (by omega) (by omega) W
    rw [show 8 - (8 - m) = m from by omega] at hcut0
    have hcut : ∀ W, (Instr.sliceAt 77 (.pointer (some ⟨w.heap.size, 0, none⟩)) (some (.int .i64 (8 - (m : Int)))) none none).run Tryd.prog W = .ok (.slice (some ⟨w.heap.size, 8 - m, none⟩) (eights x m).length m) W := by rw [eights_length]; exact hcut0
    clear hcut0
    have HX := Aside0.mk (row8_reads (w.alloc (.cells (row8 x 8) 77)) w.heap.size x m 77 (by omega) (by omega) (heap_alloc_new w _))
    have HB := Aside0.mk ((Below.refl w.heap.size w).alloc (Nat.le_refl _) (.cells (row8 x 8) 77))
    go_wp2_with (go_at_call 47; refine (num_join.calls _ _ l0 _ _ (eights x m) r _ (Kd.C_below HR0.out HB.out) HC0.out HX.out (by rw [eights_length]; exact Nat.le_refl _) H.out).mono ?_; rintro e w1 ⟨v1, rfl, ho, hb⟩; have HO := Aside0.mk ho; have HB1 := Aside0.mk hb; clear ho hb)
    go_ret
    exact ⟨_, rfl, Kd.R_lower HO.out HB.out.size, below_step HB.out HB1.out⟩
end Go.Proofs.YtgklipfeheohkaaDoor.P
