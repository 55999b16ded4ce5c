import Derived.Test.YtgklipfeheohkaaDoorPx0
import Derived.Test.YtgklipfeheohkaaDoorPx3
namespace Go.Proofs.YtgklipfeheohkaaDoor.P
open Go.RowKit Go.Proofs.YtgklipfeheohkaaDoorW.PrintWords Go.Proofs.YtgklipfeheohkaaDoorW.PrintLast Go.Proofs.YtgklipfeheohkaaDoorW.PrintMore
attribute [local go_sem] max2_int min2_int max_two min_two max_three min_three max_four min_four   -- for this text's walks alone
set_option linter.unusedVariables false
set_option linter.unusedSimpArgs false
theorem q23_ {P : Prop} (h : P := by repeat (first | (with_reducible first | exact HB.out | apply below_alloc | apply pw_below_drewN | apply below_drew1 | refine below_set ?_ GE245.out) | exact HB.out)) : P := h
theorem q32_ {P : Prop} (h : P := by (with_reducible repeat (first | refine blk_drewN ?_ _ | refine blk_drew ?_ | refine blk_alloc ?_ _)); exact BK245.out) : P := h
mutual
def cambiumref19_Good.j0 : Nat → Bool → Int → ByteArray → ByteArray → Int → List Int → Option (Bool)
 | 0, _, _, _, _, _, _ => none
 | k + 1, x25, x246000, x246001, x246002, x246003, x246004 => if x25 = true then (some false) else ((cambiumref19_Cut.f k x246002).bind fun bt250 => (if x246000 = 3 then (if bt250.2 = 0 then (cambiumref19_Good.j1 k false x246000 x246001 x246002 x246003 x246004) else (cambiumref19_Good.j1 k true x246000 x246001 x246002 x246003 x246004)) else (cambiumref19_Good.j1 k (x246002.toList != ([] : List UInt8)) x246000 x246001 x246002 x246003 x246004)))
def cambiumref19_Good.j1 : Nat → Bool → Int → ByteArray → ByteArray → Int → List Int → Option (Bool)
 | 0, _, _, _, _, _, _ => none
 | k + 1, x48, x246000, x246001, x246002, x246003, x246004 => if x48 = true then (some false) else (if x246000 = 4 then (cambiumref19_Good.j2 k true x246000 x246001 x246002 x246003 x246004) else (cambiumref19_Good.j2 k (x246000 == 5) x246000 x246001 x246002 x246003 x246004))
def cambiumref19_Good.j2 : Nat → Bool → Int → ByteArray → ByteArray → Int → List Int → Option (Bool)
 | 0, _, _, _, _, _, _ => none
 | k + 1, x7, x246000, x246001, x246002, x246003, x246004 => if x7 = true then (if x246003 < 0 then (cambiumref19_Good.j3 k true x246000 x246001 x246002 x246003 x246004) else (if x246003 > 8192 then (cambiumref19_Good.j3 k true x246000 x246001 x246002 x246003 x246004) else (cambiumref19_Good.j3 k false x246000 x246001 x246002 x246003 x246004))) else (cambiumref19_Good.j3 k (x246003 != 0) x246000 x246001 x246002 x246003 x246004)
def cambiumref19_Good.j3 : Nat → Bool → Int → ByteArray → ByteArray → Int → List Int → Option (Bool)
 | 0, _, _, _, _, _, _ => none
 | k + 1, x76, x246000, x246001, x246002, x246003, x246004 => if x76 = true then (some false) else (if x246000 = 4 then (if (x246004.length : Int) ≥ 1 then (some (decide ((x246004.length : Int) ≤ 128))) else (some false)) else (some ((x246004.length : Int) == 0)))
end
def cambiumref19_Good.f (k : Nat) (a0_0 : Int) (a0_1 : ByteArray) (a0_2 : ByteArray) (a0_3 : Int) (l0_4 : List Int) : Option (Bool) := (cambiumref19_Cut.f k a0_1).bind fun bt246 => (if a0_0 < 1 then (cambiumref19_Good.j0 k true a0_0 a0_1 a0_2 a0_3 l0_4) else (if a0_0 > 7 then (cambiumref19_Good.j0 k true a0_0 a0_1 a0_2 a0_3 l0_4) else (cambiumref19_Good.j0 k (bt246.2 != 0) a0_0 a0_1 a0_2 a0_3 l0_4)))
set_option maxHeartbeats 8000000 in
set_option maxRecDepth 100000 in
theorem cambiumref19_Good.calls (k : Nat) (a0_0 : Int) (a0_1 : ByteArray) (a0_2 : ByteArray) (a0_3 : Int) (A0_4 : Option Addr) (c0_4 : Nat) (l0_4 : List Int) (r : Bool) (w : World) (hr0_4 : Kd.C (Kd.int .u8) w A0_4 l0_4.length l0_4) (hc0_4 : l0_4.length ≤ c0_4) (h : cambiumref19_Good.f k a0_0 a0_1 a0_2 a0_3 l0_4 = some r) :
  Calls Tryd.prog 18 #[.agg #[.int .i64 a0_0, .string a0_1, .string a0_2, .int .i64 a0_3, .slice A0_4 l0_4.length c0_4]] w fun e w' => e = .returned (.bool r) ∧ Below w.heap.size w w' := by
 have hu37 := Tryd.underlying37
 have HR0_4 := Aside0.mk hr0_4
 have HC0_4 := Aside0.mk hc0_4
 clear hr0_4 hc0_4
 have HB := Aside0.mk (Below.refl w.heap.size w)
 have H : ((cambiumref19_Cut.f k a0_1).bind fun bt246 => (if a0_0 < 1 then (cambiumref19_Good.j0 k true a0_0 a0_1 a0_2 a0_3 l0_4) else (if a0_0 > 7 then (cambiumref19_Good.j0 k true a0_0 a0_1 a0_2 a0_3 l0_4) else (cambiumref19_Good.j0 k (bt246.2 != 0) a0_0 a0_1 a0_2 a0_3 l0_4)))) = some r := h
 clear h
 replace H := Option.bind_eq_some_iff.mp H
 obtain ⟨⟨t246, t247⟩, A20, H⟩ := H
 replace H : (if a0_0 < 1 then (cambiumref19_Good.j0 k true a0_0 a0_1 a0_2 a0_3 l0_4) else (if a0_0 > 7 then (cambiumref19_Good.j0 k true a0_0 a0_1 a0_2 a0_3 l0_4) else (cambiumref19_Good.j0 k (t247 != 0) a0_0 a0_1 a0_2 a0_3 l0_4))) = some r := H
 have A2 := Aside0.mk A20
 clear A20
 have HC3 := Aside0.mk H
 clear H
 go_enter Tryd.func18, Tryd.ntmps18
 go_upto_region 2 with (first | ((with_reducible refine gate_dst (N := 1) rfl ?_); (try (refine gate_guard (by rfl) ?_; dsimp only)); refine box_event ?hg (N := 1) ?hd (cs := #[.int .i64 a0_0, .string a0_1, .string a0_2, .int .i64 a0_3, .slice A0_4 l0_4.length c0_4]) (t := 37) ?hr ?_; (case hd => rfl); (case hg => rfl); (case hr => first | (go_simp; done) | (go_simp; rfl)); intro gb245 hg w4 hbox hb; have n0_ := Aside0.mk (below_step q0_ hb); have n1_ := Aside0.mk (hbox); have n2_ := Aside0.mk ((by rw [hg]; exact (below_size q0_) : w.heap.size ≤ gb245)); have n3_ := Aside0.mk ((by rw [hg]; exact (below_size q0_) : w.heap.size ≤ gb245)); clear HB; have HB := n0_; have BK245 := n1_; have GW245 := n2_; have GE245 := n3_; clear n0_ n1_ n2_ n3_; clear hb hbox hg; have hcz5_0 : w4.cell? ⟨gb245, 0, none⟩ = some (.int .i64 a0_0) := (blk_cell BK245.out 0).trans rfl; have hcz5_1 : w4.cell? ⟨gb245, 1, none⟩ = some (.string a0_1) := (blk_cell BK245.out 1).trans rfl; have hcz5_2 : w4.cell? ⟨gb245, 2, none⟩ = some (.string a0_2) := (blk_cell BK245.out 2).trans rfl; have hcz5_3 : w4.cell? ⟨gb245, 3, none⟩ = some (.int .i64 a0_3) := (blk_cell BK245.out 3).trans rfl; have hcz5_4 : w4.cell? ⟨gb245, 4, none⟩ = some (.slice A0_4 l0_4.length c0_4) := (blk_cell BK245.out 4).trans rfl; have hfz5_0 := blk_frozen BK245.out 0; have hfz5_1 := blk_frozen BK245.out 1; have hfz5_2 := blk_frozen BK245.out 2; have hfz5_3 := blk_frozen BK245.out 3; have hfz5_4 := blk_frozen BK245.out 4) | ((with_reducible refine gate_callee (f := 11) rfl ?_); refine goesL_ (some 11) rfl rfl Tryd.func11 q18_ rfl #[.string a0_1] rfl q1_ ?_; (with_reducible refine (cambiumref19_Cut.calls k a0_1 t246 t247 _ A2.out).mono ?_); rintro e w6 ⟨v248, rfl, ho0, hb⟩; refine ⟨_, rfl, ?_⟩; have n0_ := Aside0.mk (Kd.R_lower ho0 (below_size q23_)); have n1_ := Aside0.mk (blk_below (g := gb245) (o := .cells #[.int .i64 a0_0, .string a0_1, .string a0_2, .int .i64 a0_3, .slice A0_4 l0_4.length c0_4] 37 (0, 0)) q32_ hb); have n2_ := Aside0.mk (below_step q23_ hb); clear BK245; clear HB; have HO249 := n0_; have BK245 := n1_; have HB := n2_; clear n0_ n1_ n2_; (try clear hb); (try clear hb2); (try clear hk); (try clear hi); (try clear ho0)))
 (try simp only [Act.put, List.setIfInBounds_toArray, List.set_cons_zero, List.set_cons_succ])
 go_cut [25] (fun v25 wc => ∃ (kq : Nat) (x25_2 : Bool), v25 = .bool x25_2 ∧ Aside0 (cambiumref19_Good.j0 kq x25_2 a0_0 a0_1 a0_2 a0_3 l0_4 = some r) ∧ Aside0 (kq ≤ k) ∧ Aside0 (wc.heap[gb245]? = some (.cells #[.int .i64 a0_0, .string a0_1, .string a0_2, .int .i64 a0_3, (.slice A0_4 l0_4.length c0_4)] 37 (0, 0))) ∧ Aside0 (Below w.heap.size w wc))
 case first =>
  have H := HC3.out
  clear HC3
  by_cases c7 : a0_0 < 1
  ·rw [if_pos c7] at H
   have c7b0 : decide (a0_0 < 1) = true := decide_eq_true c7
   clear c7
   (first | rw [c7b0] | (simp only [i64_w, i32_w]; rw [c7b0]) | skip)
   have H' := Aside0.mk H
   clear H
   have hcz8_0 : w6.cell? ⟨gb245, 0, none⟩ = some (.int .i64 a0_0) := (blk_cell BK245.out 0).trans rfl
   have hcz8_1 : w6.cell? ⟨gb245, 1, none⟩ = some (.string a0_1) := (blk_cell BK245.out 1).trans rfl
   have hcz8_2 : w6.cell? ⟨gb245, 2, none⟩ = some (.string a0_2) := (blk_cell BK245.out 2).trans rfl
   have hcz8_3 : w6.cell? ⟨gb245, 3, none⟩ = some (.int .i64 a0_3) := (blk_cell BK245.out 3).trans rfl
   have hcz8_4 : w6.cell? ⟨gb245, 4, none⟩ = some (.slice A0_4 l0_4.length c0_4) := (blk_cell BK245.out 4).trans rfl
   have hfz8_0 := blk_frozen BK245.out 0
   have hfz8_1 := blk_frozen BK245.out 1
   have hfz8_2 := blk_frozen BK245.out 2
   have hfz8_3 := blk_frozen BK245.out 3
   have hfz8_4 := blk_frozen BK245.out 4
   go_wp2
   go_meet
   case rel => exact ⟨_, (true), q3_, H', ⟨q51_⟩, ⟨q32_⟩, ⟨q23_⟩⟩
  ·rw [if_neg c7] at H
   have c7b0 : decide (a0_0 < 1) = false := decide_eq_false c7
   clear c7
   (first | rw [c7b0] | (simp only [i64_w, i32_w]; rw [c7b0]) | skip)
   by_cases c9 : a0_0 > 7
   ·rw [if_pos c9] at H
    have c9b0 : decide (7 < a0_0) = true := decide_eq_true c9
    clear c9
    have H' := Aside0.mk H
    clear H
    have hcz10_0 : w6.cell? ⟨gb245, 0, none⟩ = some (.int .i64 a0_0) := (blk_cell BK245.out 0).trans rfl
    have hcz10_1 : w6.cell? ⟨gb245, 1, none⟩ = some (.string a0_1) := (blk_cell BK245.out 1).trans rfl
    have hcz10_2 : w6.cell? ⟨gb245, 2, none⟩ = some (.string a0_2) := (blk_cell BK245.out 2).trans rfl
    have hcz10_3 : w6.cell? ⟨gb245, 3, none⟩ = some (.int .i64 a0_3) := (blk_cell BK245.out 3).trans rfl
    have hcz10_4 : w6.cell? ⟨gb245, 4, none⟩ = some (.slice A0_4 l0_4.length c0_4) := (blk_cell BK245.out 4).trans rfl
    have hfz10_0 := blk_frozen BK245.out 0
    have hfz10_1 := blk_frozen BK245.out 1
    have hfz10_2 := blk_frozen BK245.out 2
    have hfz10_3 := blk_frozen BK245.out 3
    have hfz10_4 := blk_frozen BK245.out 4
    go_wp2
    go_meet
    case rel => exact ⟨_, (true), q3_, H', ⟨q51_⟩, ⟨q32_⟩, ⟨q23_⟩⟩
   ·rw [if_neg c9] at H
    have c9b0 : decide (7 < a0_0) = false := decide_eq_false c9
    clear c9
    have H' := Aside0.mk H
    clear H
    have hcz11_0 : w6.cell? ⟨gb245, 0, none⟩ = some (.int .i64 a0_0) := (blk_cell BK245.out 0).trans rfl
    have hcz11_1 : w6.cell? ⟨gb245, 1, none⟩ = some (.string a0_1) := (blk_cell BK245.out 1).trans rfl
    have hcz11_2 : w6.cell? ⟨gb245, 2, none⟩ = some (.string a0_2) := (blk_cell BK245.out 2).trans rfl
    have hcz11_3 : w6.cell? ⟨gb245, 3, none⟩ = some (.int .i64 a0_3) := (blk_cell BK245.out 3).trans rfl
    have hcz11_4 : w6.cell? ⟨gb245, 4, none⟩ = some (.slice A0_4 l0_4.length c0_4) := (blk_cell BK245.out 4).trans rfl
    have hfz11_0 := blk_frozen BK245.out 0
    have hfz11_1 := blk_frozen BK245.out 1
    have hfz11_2 := blk_frozen BK245.out 2
    have hfz11_3 := blk_frozen BK245.out 3
    have hfz11_4 := blk_frozen BK245.out 4
    go_wp2
    go_meet
    case rel => exact ⟨_, ((t247 != 0)), q3_, H', ⟨q51_⟩, ⟨q32_⟩, ⟨q23_⟩⟩
 case rest =>
  clear HC3
  try clear c1
  try clear p2
  try clear c7
  try clear c7b0
  try clear c9
  try clear c9b0
  try clear c11
  try clear hcz10_0
  try clear hcz10_1
  try clear hcz10_2
  try clear hcz10_3
  try clear hcz10_4
  try clear hcz11_0
  try clear hcz11_1
  try clear hcz11_2
  try clear hcz11_3
  try clear hcz11_4
  try clear hcz5_0
  try clear hcz5_1
  try clear hcz5_2
  try clear hcz5_3
  try clear hcz5_4
  try clear hcz8_0
  try clear hcz8_1
  try clear hcz8_2
  try clear hcz8_3
  try clear hcz8_4
  try clear hfz10_0
  try clear hfz10_1
  try clear hfz10_2
  try clear hfz10_3
  try clear hfz10_4
  try clear hfz11_0
  try clear hfz11_1
  try clear hfz11_2
  try clear hfz11_3
  try clear hfz11_4
  try clear hfz5_0
  try clear hfz5_1
  try clear hfz5_2
  try clear hfz5_3
  try clear hfz5_4
  try clear hfz8_0
  try clear hfz8_1
  try clear hfz8_2
  try clear hfz8_3
  try clear hfz8_4
  obtain ⟨kq, x25_2, rfl, HA, HJ2, BK245, HB⟩ := hcut
  cases kq with
  | zero => exact absurd (show none = some _ from HA.out) (by simp)
  | succ kj2 =>
   have H := HA.out
   clear HA
   simp only [cambiumref19_Good.j0] at H
   by_cases c12 : x25_2 = true
   ·subst c12
    have H1 : (some false) = some r := by rw [if_pos rfl] at H; exact H
    clear H
    have H := H1
    clear H1
    obtain rfl := Option.some.inj H
    go_wp2
    go_ret
    exact ⟨q9_, by repeat (first | (with_reducible first | exact HB.out | apply below_alloc | apply pw_below_drewN | apply below_drew1 | refine below_set ?_ GE245.out) | exact HB.out)⟩
   ·replace c12 := Bool.eq_false_iff.mpr c12
    subst c12
    have H1 : ((cambiumref19_Cut.f kj2 a0_2).bind fun bt250 => (if a0_0 = 3 then (if bt250.2 = 0 then (cambiumref19_Good.j1 kj2 false a0_0 a0_1 a0_2 a0_3 l0_4) else (cambiumref19_Good.j1 kj2 true a0_0 a0_1 a0_2 a0_3 l0_4)) else (cambiumref19_Good.j1 kj2 (a0_2.toList != ([] : List UInt8)) a0_0 a0_1 a0_2 a0_3 l0_4))) = some r := by rw [if_neg (show ¬ (false = true) by decide)] at H; exact H
    clear H
    have H := H1
    clear H1
    replace H := Option.bind_eq_some_iff.mp H
    obtain ⟨⟨t250, t251⟩, A130, H⟩ := H
    replace H : (if a0_0 = 3 then (if t251 = 0 then (cambiumref19_Good.j1 kj2 false a0_0 a0_1 a0_2 a0_3 l0_4) else (cambiumref19_Good.j1 kj2 true a0_0 a0_1 a0_2 a0_3 l0_4)) else (cambiumref19_Good.j1 kj2 (a0_2.toList != ([] : List UInt8)) a0_0 a0_1 a0_2 a0_3 l0_4)) = some r := H
    have A13 := Aside0.mk A130
    clear A130
    have HC14 := Aside0.mk H
    clear H
    have hcz15_0 : wc.cell? ⟨gb245, 0, none⟩ = some (.int .i64 a0_0) := (blk_cell BK245.out 0).trans rfl
    have hcz15_1 : wc.cell? ⟨gb245, 1, none⟩ = some (.string a0_1) := (blk_cell BK245.out 1).trans rfl
    have hcz15_2 : wc.cell? ⟨gb245, 2, none⟩ = some (.string a0_2) := (blk_cell BK245.out 2).trans rfl
    have hcz15_3 : wc.cell? ⟨gb245, 3, none⟩ = some (.int .i64 a0_3) := (blk_cell BK245.out 3).trans rfl
    have hcz15_4 : wc.cell? ⟨gb245, 4, none⟩ = some (.slice A0_4 l0_4.length c0_4) := (blk_cell BK245.out 4).trans rfl
    have hfz15_0 := blk_frozen BK245.out 0
    have hfz15_1 := blk_frozen BK245.out 1
    have hfz15_2 := blk_frozen BK245.out 2
    have hfz15_3 := blk_frozen BK245.out 3
    have hfz15_4 := blk_frozen BK245.out 4
    go_upto_region 5 with (first | ((with_reducible refine gate_callee (f := 11) rfl ?_); refine goesL_ (some 29) rfl rfl Tryd.func11 q18_ rfl #[.string a0_2] rfl q1_ ?_; (with_reducible refine (cambiumref19_Cut.calls kj2 a0_2 t250 t251 _ A13.out).mono ?_); rintro e w16 ⟨v252, rfl, ho0, hb⟩; refine ⟨_, rfl, ?_⟩; have n0_ := Aside0.mk (Kd.R_lower ho0 (below_size q23_)); have n1_ := Aside0.mk (blk_below (g := gb245) (o := .cells #[.int .i64 a0_0, .string a0_1, .string a0_2, .int .i64 a0_3, .slice A0_4 l0_4.length c0_4] 37 (0, 0)) q32_ hb); have n2_ := Aside0.mk (below_step q23_ hb); clear BK245; clear HB; have HO253 := n0_; have BK245 := n1_; have HB := n2_; clear n0_ n1_ n2_; (try clear hb); (try clear hb2); (try clear hk); (try clear hi); (try clear ho0)))
    (try simp only [Act.put, List.setIfInBounds_toArray, List.set_cons_zero, List.set_cons_succ])
    go_cut [48] (fun v48 wc => ∃ (kq : Nat) (x48_13 : Bool), v48 = .bool x48_13 ∧ Aside0 (cambiumref19_Good.j1 kq x48_13 a0_0 a0_1 a0_2 a0_3 l0_4 = some r) ∧ Aside0 (kq ≤ kj2) ∧ Aside0 (wc.heap[gb245]? = some (.cells #[.int .i64 a0_0, .string a0_1, .string a0_2, .int .i64 a0_3, (.slice A0_4 l0_4.length c0_4)] 37 (0, 0))) ∧ Aside0 (Below w.heap.size w wc))
    case first =>
     have H := HC14.out
     clear HC14
     by_cases c17 : a0_0 = 3
     ·rw [if_pos c17] at H
      have c17b0 : (a0_0 == 3) = true := beq_iff_eq.mpr c17
      have c17b1 : (a0_0 != 3) = false := bne_eq_false_iff_eq.mpr c17
      clear c17
      (first | rw [c17b0] | (simp only [i64_w, i32_w]; rw [c17b0]) | skip)
      by_cases c18 : t251 = 0
      ·rw [if_pos c18] at H
       have c18b0 : (t251 == 0) = true := beq_iff_eq.mpr c18
       have c18b1 : (t251 != 0) = false := bne_eq_false_iff_eq.mpr c18
       clear c18
       have H' := Aside0.mk H
       clear H
       have hcz19_0 : w16.cell? ⟨gb245, 0, none⟩ = some (.int .i64 a0_0) := (blk_cell BK245.out 0).trans rfl
       have hcz19_1 : w16.cell? ⟨gb245, 1, none⟩ = some (.string a0_1) := (blk_cell BK245.out 1).trans rfl
       have hcz19_2 : w16.cell? ⟨gb245, 2, none⟩ = some (.string a0_2) := (blk_cell BK245.out 2).trans rfl
       have hcz19_3 : w16.cell? ⟨gb245, 3, none⟩ = some (.int .i64 a0_3) := (blk_cell BK245.out 3).trans rfl
       have hcz19_4 : w16.cell? ⟨gb245, 4, none⟩ = some (.slice A0_4 l0_4.length c0_4) := (blk_cell BK245.out 4).trans rfl
       have hfz19_0 := blk_frozen BK245.out 0
       have hfz19_1 := blk_frozen BK245.out 1
       have hfz19_2 := blk_frozen BK245.out 2
       have hfz19_3 := blk_frozen BK245.out 3
       have hfz19_4 := blk_frozen BK245.out 4
       go_wp2
       go_meet
       case rel => exact ⟨_, (false), q3_, H', ⟨by have := HJ2.out; first | omega | exact Nat.le_refl _⟩, ⟨q32_⟩, ⟨q23_⟩⟩
      ·rw [if_neg c18] at H
       have c18b0 : (t251 == 0) = false := beq_eq_false_iff_ne.mpr c18
       have c18b1 : (t251 != 0) = true := bne_iff_ne.mpr c18
       have H' := Aside0.mk H
       clear H
       have hcz20_0 : w16.cell? ⟨gb245, 0, none⟩ = some (.int .i64 a0_0) := (blk_cell BK245.out 0).trans rfl
       have hcz20_1 : w16.cell? ⟨gb245, 1, none⟩ = some (.string a0_1) := (blk_cell BK245.out 1).trans rfl
       have hcz20_2 : w16.cell? ⟨gb245, 2, none⟩ = some (.string a0_2) := (blk_cell BK245.out 2).trans rfl
       have hcz20_3 : w16.cell? ⟨gb245, 3, none⟩ = some (.int .i64 a0_3) := (blk_cell BK245.out 3).trans rfl
       have hcz20_4 : w16.cell? ⟨gb245, 4, none⟩ = some (.slice A0_4 l0_4.length c0_4) := (blk_cell BK245.out 4).trans rfl
       have hfz20_0 := blk_frozen BK245.out 0
       have hfz20_1 := blk_frozen BK245.out 1
       have hfz20_2 := blk_frozen BK245.out 2
       have hfz20_3 := blk_frozen BK245.out 3
       have hfz20_4 := blk_frozen BK245.out 4
       go_wp2
       go_meet
       case rel => exact ⟨_, (true), q3_, H', ⟨by have := HJ2.out; first | omega | exact Nat.le_refl _⟩, ⟨q32_⟩, ⟨q23_⟩⟩
     ·rw [if_neg c17] at H
      have c17b0 : (a0_0 == 3) = false := beq_eq_false_iff_ne.mpr c17
      have c17b1 : (a0_0 != 3) = true := bne_iff_ne.mpr c17
      (first | rw [c17b0] | (simp only [i64_w, i32_w]; rw [c17b0]) | skip)
      have H' := Aside0.mk H
      clear H
      have hcz21_0 : w16.cell? ⟨gb245, 0, none⟩ = some (.int .i64 a0_0) := (blk_cell BK245.out 0).trans rfl
      have hcz21_1 : w16.cell? ⟨gb245, 1, none⟩ = some (.string a0_1) := (blk_cell BK245.out 1).trans rfl
      have hcz21_2 : w16.cell? ⟨gb245, 2, none⟩ = some (.string a0_2) := (blk_cell BK245.out 2).trans rfl
      have hcz21_3 : w16.cell? ⟨gb245, 3, none⟩ = some (.int .i64 a0_3) := (blk_cell BK245.out 3).trans rfl
      have hcz21_4 : w16.cell? ⟨gb245, 4, none⟩ = some (.slice A0_4 l0_4.length c0_4) := (blk_cell BK245.out 4).trans rfl
      have hfz21_0 := blk_frozen BK245.out 0
      have hfz21_1 := blk_frozen BK245.out 1
      have hfz21_2 := blk_frozen BK245.out 2
      have hfz21_3 := blk_frozen BK245.out 3
      have hfz21_4 := blk_frozen BK245.out 4
      go_wp2
      go_meet
      case rel => exact ⟨_, ((a0_2.toList != ([] : List UInt8))), q3_, H', ⟨by have := HJ2.out; first | omega | exact Nat.le_refl _⟩, ⟨q32_⟩, ⟨q23_⟩⟩
    case rest =>
     clear HC14
     try clear c1
     try clear p2
     try clear c7
     try clear c7b0
     try clear c9
     try clear c9b0
     try clear c11
     try clear c12
     try clear c17
     try clear c17b0
     try clear c17b1
     try clear c18
     try clear c18b0
     try clear c18b1
     try clear hcz10_0
     try clear hcz10_1
     try clear hcz10_2
     try clear hcz10_3
     try clear hcz10_4
     try clear hcz11_0
     try clear hcz11_1
     try clear hcz11_2
     try clear hcz11_3
     try clear hcz11_4
     try clear hcz15_0
     try clear hcz15_1
     try clear hcz15_2
     try clear hcz15_3
     try clear hcz15_4
     try clear hcz19_0
     try clear hcz19_1
     try clear hcz19_2
     try clear hcz19_3
     try clear hcz19_4
     try clear hcz20_0
     try clear hcz20_1
     try clear hcz20_2
     try clear hcz20_3
     try clear hcz20_4
     try clear hcz21_0
     try clear hcz21_1
     try clear hcz21_2
     try clear hcz21_3
     try clear hcz21_4
     try clear hcz5_0
     try clear hcz5_1
     try clear hcz5_2
     try clear hcz5_3
     try clear hcz5_4
     try clear hcz8_0
     try clear hcz8_1
     try clear hcz8_2
     try clear hcz8_3
     try clear hcz8_4
     try clear hfz10_0
     try clear hfz10_1
     try clear hfz10_2
     try clear hfz10_3
     try clear hfz10_4
     try clear hfz11_0
     try clear hfz11_1
     try clear hfz11_2
     try clear hfz11_3
     try clear hfz11_4
     try clear hfz15_0
     try clear hfz15_1
     try clear hfz15_2
     try clear hfz15_3
     try clear hfz15_4
     try clear hfz19_0
     try clear hfz19_1
     try clear hfz19_2
     try clear hfz19_3
     try clear hfz19_4
     try clear hfz20_0
     try clear hfz20_1
     try clear hfz20_2
     try clear hfz20_3
     try clear hfz20_4
     try clear hfz21_0
     try clear hfz21_1
     try clear hfz21_2
     try clear hfz21_3
     try clear hfz21_4
     try clear hfz5_0
     try clear hfz5_1
     try clear hfz5_2
     try clear hfz5_3
     try clear hfz5_4
     try clear hfz8_0
     try clear hfz8_1
     try clear hfz8_2
     try clear hfz8_3
     try clear hfz8_4
     try clear p2
     obtain ⟨kq, x48_13, rfl, HA, HJ13, BK245, HB⟩ := hcut
     cases kq with
     | zero => exact absurd (show none = some _ from HA.out) (by simp)
     | succ kj13 =>
      have H := HA.out
      clear HA
      simp only [cambiumref19_Good.j1] at H
      by_cases c22 : x48_13 = true
      ·subst c22
       have H1 : (some false) = some r := by rw [if_pos rfl] at H; exact H
       clear H
       have H := H1
       clear H1
       obtain rfl := Option.some.inj H
       go_wp2
       go_ret
       exact ⟨q9_, by repeat (first | (with_reducible first | exact HB.out | apply below_alloc | apply pw_below_drewN | apply below_drew1 | refine below_set ?_ GE245.out) | exact HB.out)⟩
      ·replace c22 := Bool.eq_false_iff.mpr c22
       subst c22
       have H1 : (if a0_0 = 4 then (cambiumref19_Good.j2 kj13 true a0_0 a0_1 a0_2 a0_3 l0_4) else (cambiumref19_Good.j2 kj13 (a0_0 == 5) a0_0 a0_1 a0_2 a0_3 l0_4)) = some r := by rw [if_neg (show ¬ (false = true) by decide)] at H; exact H
       clear H
       have H := H1
       clear H1
       have HC23 := Aside0.mk H
       clear H
       go_upto_region 7 with (fail)
       go_cut [7] (fun v7 wc => ∃ (kq : Nat) (x7_22 : Bool), v7 = .bool x7_22 ∧ Aside0 (cambiumref19_Good.j2 kq x7_22 a0_0 a0_1 a0_2 a0_3 l0_4 = some r) ∧ Aside0 (kq ≤ kj13) ∧ Aside0 (wc.heap[gb245]? = some (.cells #[.int .i64 a0_0, .string a0_1, .string a0_2, .int .i64 a0_3, (.slice A0_4 l0_4.length c0_4)] 37 (0, 0))) ∧ Aside0 (Below w.heap.size w wc))
       case first =>
        have H := HC23.out
        clear HC23
        by_cases c24 : a0_0 = 4
        ·rw [if_pos c24] at H
         have c24b0 : (a0_0 == 4) = true := beq_iff_eq.mpr c24
         have c24b1 : (a0_0 != 4) = false := bne_eq_false_iff_eq.mpr c24
         clear c24
         (first | rw [c24b0] | (simp only [i64_w, i32_w]; rw [c24b0]) | skip)
         have H' := Aside0.mk H
         clear H
         have hcz25_0 : wc.cell? ⟨gb245, 0, none⟩ = some (.int .i64 a0_0) := (blk_cell BK245.out 0).trans rfl
         have hcz25_1 : wc.cell? ⟨gb245, 1, none⟩ = some (.string a0_1) := (blk_cell BK245.out 1).trans rfl
         have hcz25_2 : wc.cell? ⟨gb245, 2, none⟩ = some (.string a0_2) := (blk_cell BK245.out 2).trans rfl
         have hcz25_3 : wc.cell? ⟨gb245, 3, none⟩ = some (.int .i64 a0_3) := (blk_cell BK245.out 3).trans rfl
         have hcz25_4 : wc.cell? ⟨gb245, 4, none⟩ = some (.slice A0_4 l0_4.length c0_4) := (blk_cell BK245.out 4).trans rfl
         have hfz25_0 := blk_frozen BK245.out 0
         have hfz25_1 := blk_frozen BK245.out 1
         have hfz25_2 := blk_frozen BK245.out 2
         have hfz25_3 := blk_frozen BK245.out 3
         have hfz25_4 := blk_frozen BK245.out 4
         go_wp2
         go_meet
         case rel => exact ⟨_, (true), q3_, H', ⟨by have := HJ2.out; have := HJ13.out; first | omega | exact Nat.le_refl _⟩, ⟨q32_⟩, ⟨q23_⟩⟩
        ·rw [if_neg c24] at H
         have c24b0 : (a0_0 == 4) = false := beq_eq_false_iff_ne.mpr c24
         have c24b1 : (a0_0 != 4) = true := bne_iff_ne.mpr c24
         (first | rw [c24b0] | (simp only [i64_w, i32_w]; rw [c24b0]) | skip)
         have H' := Aside0.mk H
         clear H
         have hcz26_0 : wc.cell? ⟨gb245, 0, none⟩ = some (.int .i64 a0_0) := (blk_cell BK245.out 0).trans rfl
         have hcz26_1 : wc.cell? ⟨gb245, 1, none⟩ = some (.string a0_1) := (blk_cell BK245.out 1).trans rfl
         have hcz26_2 : wc.cell? ⟨gb245, 2, none⟩ = some (.string a0_2) := (blk_cell BK245.out 2).trans rfl
         have hcz26_3 : wc.cell? ⟨gb245, 3, none⟩ = some (.int .i64 a0_3) := (blk_cell BK245.out 3).trans rfl
         have hcz26_4 : wc.cell? ⟨gb245, 4, none⟩ = some (.slice A0_4 l0_4.length c0_4) := (blk_cell BK245.out 4).trans rfl
         have hfz26_0 := blk_frozen BK245.out 0
         have hfz26_1 := blk_frozen BK245.out 1
         have hfz26_2 := blk_frozen BK245.out 2
         have hfz26_3 := blk_frozen BK245.out 3
         have hfz26_4 := blk_frozen BK245.out 4
         go_wp2
         go_meet
         case rel => exact ⟨_, ((a0_0 == 5)), q3_, H', ⟨by have := HJ2.out; have := HJ13.out; first | omega | exact Nat.le_refl _⟩, ⟨q32_⟩, ⟨q23_⟩⟩
       case rest =>
        clear HC23
        try clear c1
        try clear c2
        try clear p2
        try clear c7
        try clear c7b0
        try clear c9
        try clear c9b0
        try clear c11
        try clear c12
        try clear c17
        try clear c17b0
        try clear c17b1
        try clear c18
        try clear c18b0
        try clear c18b1
        try clear c22
        try clear c24
        try clear c24b0
        try clear c24b1
        try clear hcz10_0
        try clear hcz10_1
        try clear hcz10_2
        try clear hcz10_3
        try clear hcz10_4
        try clear hcz11_0
        try clear hcz11_1
        try clear hcz11_2
        try clear hcz11_3
        try clear hcz11_4
        try clear hcz15_0
        try clear hcz15_1
        try clear hcz15_2
        try clear hcz15_3
        try clear hcz15_4
        try clear hcz19_0
        try clear hcz19_1
        try clear hcz19_2
        try clear hcz19_3
        try clear hcz19_4
        try clear hcz20_0
        try clear hcz20_1
        try clear hcz20_2
        try clear hcz20_3
        try clear hcz20_4
        try clear hcz21_0
        try clear hcz21_1
        try clear hcz21_2
        try clear hcz21_3
        try clear hcz21_4
        try clear hcz25_0
        try clear hcz25_1
        try clear hcz25_2
        try clear hcz25_3
        try clear hcz25_4
        try clear hcz26_0
        try clear hcz26_1
        try clear hcz26_2
        try clear hcz26_3
        try clear hcz26_4
        try clear hcz5_0
        try clear hcz5_1
        try clear hcz5_2
        try clear hcz5_3
        try clear hcz5_4
        try clear hcz8_0
        try clear hcz8_1
        try clear hcz8_2
        try clear hcz8_3
        try clear hcz8_4
        try clear hfz10_0
        try clear hfz10_1
        try clear hfz10_2
        try clear hfz10_3
        try clear hfz10_4
        try clear hfz11_0
        try clear hfz11_1
        try clear hfz11_2
        try clear hfz11_3
        try clear hfz11_4
        try clear hfz15_0
        try clear hfz15_1
        try clear hfz15_2
        try clear hfz15_3
        try clear hfz15_4
        try clear hfz19_0
        try clear hfz19_1
        try clear hfz19_2
        try clear hfz19_3
        try clear hfz19_4
        try clear hfz20_0
        try clear hfz20_1
        try clear hfz20_2
        try clear hfz20_3
        try clear hfz20_4
        try clear hfz21_0
        try clear hfz21_1
        try clear hfz21_2
        try clear hfz21_3
        try clear hfz21_4
        try clear hfz25_0
        try clear hfz25_1
        try clear hfz25_2
        try clear hfz25_3
        try clear hfz25_4
        try clear hfz26_0
        try clear hfz26_1
        try clear hfz26_2
        try clear hfz26_3
        try clear hfz26_4
        try clear hfz5_0
        try clear hfz5_1
        try clear hfz5_2
        try clear hfz5_3
        try clear hfz5_4
        try clear hfz8_0
        try clear hfz8_1
        try clear hfz8_2
        try clear hfz8_3
        try clear hfz8_4
        try clear p2
        obtain ⟨kq, x7_22, rfl, HA, HJ22, BK245, HB⟩ := hcut
        cases kq with
        | zero => exact absurd (show none = some _ from HA.out) (by simp)
        | succ kj22 =>
         have H := HA.out
         clear HA
         simp only [cambiumref19_Good.j2] at H
         have HC27 := Aside0.mk H
         clear H
         go_upto_region 8 with (fail)
         go_cut [76] (fun v76 wc => ∃ (kq : Nat) (x76_26 : Bool), v76 = .bool x76_26 ∧ Aside0 (cambiumref19_Good.j3 kq x76_26 a0_0 a0_1 a0_2 a0_3 l0_4 = some r) ∧ Aside0 (kq ≤ kj22) ∧ Aside0 (wc.heap[gb245]? = some (.cells #[.int .i64 a0_0, .string a0_1, .string a0_2, .int .i64 a0_3, (.slice A0_4 l0_4.length c0_4)] 37 (0, 0))) ∧ Aside0 (Below w.heap.size w wc))
         case first =>
          have H := HC27.out
          clear HC27
          by_cases c28 : x7_22 = true
          ·subst c28
           have H1 : (if a0_3 < 0 then (cambiumref19_Good.j3 kj22 true a0_0 a0_1 a0_2 a0_3 l0_4) else (if a0_3 > 8192 then (cambiumref19_Good.j3 kj22 true a0_0 a0_1 a0_2 a0_3 l0_4) else (cambiumref19_Good.j3 kj22 false a0_0 a0_1 a0_2 a0_3 l0_4))) = some r := by rw [if_pos rfl] at H; exact H
           clear H
           have H := H1
           clear H1
           by_cases c29 : a0_3 < 0
           ·rw [if_pos c29] at H
            have c29b0 : decide (a0_3 < 0) = true := decide_eq_true c29
            clear c29
            (first | rw [c29b0] | (simp only [i64_w, i32_w]; rw [c29b0]) | skip)
            have H' := Aside0.mk H
            clear H
            have hcz30_0 : wc.cell? ⟨gb245, 0, none⟩ = some (.int .i64 a0_0) := (blk_cell BK245.out 0).trans rfl
            have hcz30_1 : wc.cell? ⟨gb245, 1, none⟩ = some (.string a0_1) := (blk_cell BK245.out 1).trans rfl
            have hcz30_2 : wc.cell? ⟨gb245, 2, none⟩ = some (.string a0_2) := (blk_cell BK245.out 2).trans rfl
            have hcz30_3 : wc.cell? ⟨gb245, 3, none⟩ = some (.int .i64 a0_3) := (blk_cell BK245.out 3).trans rfl
            have hcz30_4 : wc.cell? ⟨gb245, 4, none⟩ = some (.slice A0_4 l0_4.length c0_4) := (blk_cell BK245.out 4).trans rfl
            have hfz30_0 := blk_frozen BK245.out 0
            have hfz30_1 := blk_frozen BK245.out 1
            have hfz30_2 := blk_frozen BK245.out 2
            have hfz30_3 := blk_frozen BK245.out 3
            have hfz30_4 := blk_frozen BK245.out 4
            go_wp2
            go_meet
            case rel => exact ⟨_, (true), q3_, H', ⟨by have := HJ2.out; have := HJ13.out; have := HJ22.out; first | omega | exact Nat.le_refl _⟩, ⟨q32_⟩, ⟨q23_⟩⟩
           ·rw [if_neg c29] at H
            have c29b0 : decide (a0_3 < 0) = false := decide_eq_false c29
            clear c29
            (first | rw [c29b0] | (simp only [i64_w, i32_w]; rw [c29b0]) | skip)
            by_cases c31 : a0_3 > 8192
            ·rw [if_pos c31] at H
             have c31b0 : decide (8192 < a0_3) = true := decide_eq_true c31
             clear c31
             have H' := Aside0.mk H
             clear H
             have hcz32_0 : wc.cell? ⟨gb245, 0, none⟩ = some (.int .i64 a0_0) := (blk_cell BK245.out 0).trans rfl
             have hcz32_1 : wc.cell? ⟨gb245, 1, none⟩ = some (.string a0_1) := (blk_cell BK245.out 1).trans rfl
             have hcz32_2 : wc.cell? ⟨gb245, 2, none⟩ = some (.string a0_2) := (blk_cell BK245.out 2).trans rfl
             have hcz32_3 : wc.cell? ⟨gb245, 3, none⟩ = some (.int .i64 a0_3) := (blk_cell BK245.out 3).trans rfl
             have hcz32_4 : wc.cell? ⟨gb245, 4, none⟩ = some (.slice A0_4 l0_4.length c0_4) := (blk_cell BK245.out 4).trans rfl
             have hfz32_0 := blk_frozen BK245.out 0
             have hfz32_1 := blk_frozen BK245.out 1
             have hfz32_2 := blk_frozen BK245.out 2
             have hfz32_3 := blk_frozen BK245.out 3
             have hfz32_4 := blk_frozen BK245.out 4
             go_wp2
             go_meet
             case rel => exact ⟨_, (true), q3_, H', ⟨by have := HJ2.out; have := HJ13.out; have := HJ22.out; first | omega | exact Nat.le_refl _⟩, ⟨q32_⟩, ⟨q23_⟩⟩
            ·rw [if_neg c31] at H
             have c31b0 : decide (8192 < a0_3) = false := decide_eq_false c31
             clear c31
             have H' := Aside0.mk H
             clear H
             have hcz33_0 : wc.cell? ⟨gb245, 0, none⟩ = some (.int .i64 a0_0) := (blk_cell BK245.out 0).trans rfl
             have hcz33_1 : wc.cell? ⟨gb245, 1, none⟩ = some (.string a0_1) := (blk_cell BK245.out 1).trans rfl
             have hcz33_2 : wc.cell? ⟨gb245, 2, none⟩ = some (.string a0_2) := (blk_cell BK245.out 2).trans rfl
             have hcz33_3 : wc.cell? ⟨gb245, 3, none⟩ = some (.int .i64 a0_3) := (blk_cell BK245.out 3).trans rfl
             have hcz33_4 : wc.cell? ⟨gb245, 4, none⟩ = some (.slice A0_4 l0_4.length c0_4) := (blk_cell BK245.out 4).trans rfl
             have hfz33_0 := blk_frozen BK245.out 0
             have hfz33_1 := blk_frozen BK245.out 1
             have hfz33_2 := blk_frozen BK245.out 2
             have hfz33_3 := blk_frozen BK245.out 3
             have hfz33_4 := blk_frozen BK245.out 4
             go_wp2
             go_meet
             case rel => exact ⟨_, (false), q3_, H', ⟨by have := HJ2.out; have := HJ13.out; have := HJ22.out; first | omega | exact Nat.le_refl _⟩, ⟨q32_⟩, ⟨q23_⟩⟩
          ·replace c28 := Bool.eq_false_iff.mpr c28
           subst c28
           have H1 : (cambiumref19_Good.j3 kj22 (a0_3 != 0) a0_0 a0_1 a0_2 a0_3 l0_4) = some r := by rw [if_neg (show ¬ (false = true) by decide)] at H; exact H
           clear H
           have H := H1
           clear H1
           have H' := Aside0.mk H
           clear H
           have hcz34_0 : wc.cell? ⟨gb245, 0, none⟩ = some (.int .i64 a0_0) := (blk_cell BK245.out 0).trans rfl
           have hcz34_1 : wc.cell? ⟨gb245, 1, none⟩ = some (.string a0_1) := (blk_cell BK245.out 1).trans rfl
           have hcz34_2 : wc.cell? ⟨gb245, 2, none⟩ = some (.string a0_2) := (blk_cell BK245.out 2).trans rfl
           have hcz34_3 : wc.cell? ⟨gb245, 3, none⟩ = some (.int .i64 a0_3) := (blk_cell BK245.out 3).trans rfl
           have hcz34_4 : wc.cell? ⟨gb245, 4, none⟩ = some (.slice A0_4 l0_4.length c0_4) := (blk_cell BK245.out 4).trans rfl
           have hfz34_0 := blk_frozen BK245.out 0
           have hfz34_1 := blk_frozen BK245.out 1
           have hfz34_2 := blk_frozen BK245.out 2
           have hfz34_3 := blk_frozen BK245.out 3
           have hfz34_4 := blk_frozen BK245.out 4
           go_wp2
           go_meet
           case rel => exact ⟨_, ((a0_3 != 0)), q3_, H', ⟨by have := HJ2.out; have := HJ13.out; have := HJ22.out; first | omega | exact Nat.le_refl _⟩, ⟨q32_⟩, ⟨q23_⟩⟩
         case rest =>
          clear HC27
          try clear c1
          try clear c2
          try clear p2
          try clear c3
          try clear c7
          try clear c7b0
          try clear c9
          try clear c9b0
          try clear c11
          try clear c12
          try clear c17
          try clear c17b0
          try clear c17b1
          try clear c18
          try clear c18b0
          try clear c18b1
          try clear c22
          try clear c24
          try clear c24b0
          try clear c24b1
          try clear c28
          try clear c29
          try clear c29b0
          try clear c31
          try clear c31b0
          try clear hcz10_0
          try clear hcz10_1
          try clear hcz10_2
          try clear hcz10_3
          try clear hcz10_4
          try clear hcz11_0
          try clear hcz11_1
          try clear hcz11_2
          try clear hcz11_3
          try clear hcz11_4
          try clear hcz15_0
          try clear hcz15_1
          try clear hcz15_2
          try clear hcz15_3
          try clear hcz15_4
          try clear hcz19_0
          try clear hcz19_1
          try clear hcz19_2
          try clear hcz19_3
          try clear hcz19_4
          try clear hcz20_0
          try clear hcz20_1
          try clear hcz20_2
          try clear hcz20_3
          try clear hcz20_4
          try clear hcz21_0
          try clear hcz21_1
          try clear hcz21_2
          try clear hcz21_3
          try clear hcz21_4
          try clear hcz25_0
          try clear hcz25_1
          try clear hcz25_2
          try clear hcz25_3
          try clear hcz25_4
          try clear hcz26_0
          try clear hcz26_1
          try clear hcz26_2
          try clear hcz26_3
          try clear hcz26_4
          try clear hcz30_0
          try clear hcz30_1
          try clear hcz30_2
          try clear hcz30_3
          try clear hcz30_4
          try clear hcz32_0
          try clear hcz32_1
          try clear hcz32_2
          try clear hcz32_3
          try clear hcz32_4
          try clear hcz33_0
          try clear hcz33_1
          try clear hcz33_2
          try clear hcz33_3
          try clear hcz33_4
          try clear hcz34_0
          try clear hcz34_1
          try clear hcz34_2
          try clear hcz34_3
          try clear hcz34_4
          try clear hcz5_0
          try clear hcz5_1
          try clear hcz5_2
          try clear hcz5_3
          try clear hcz5_4
          try clear hcz8_0
          try clear hcz8_1
          try clear hcz8_2
          try clear hcz8_3
          try clear hcz8_4
          try clear hfz10_0
          try clear hfz10_1
          try clear hfz10_2
          try clear hfz10_3
          try clear hfz10_4
          try clear hfz11_0
          try clear hfz11_1
          try clear hfz11_2
          try clear hfz11_3
          try clear hfz11_4
          try clear hfz15_0
          try clear hfz15_1
          try clear hfz15_2
          try clear hfz15_3
          try clear hfz15_4
          try clear hfz19_0
          try clear hfz19_1
          try clear hfz19_2
          try clear hfz19_3
          try clear hfz19_4
          try clear hfz20_0
          try clear hfz20_1
          try clear hfz20_2
          try clear hfz20_3
          try clear hfz20_4
          try clear hfz21_0
          try clear hfz21_1
          try clear hfz21_2
          try clear hfz21_3
          try clear hfz21_4
          try clear hfz25_0
          try clear hfz25_1
          try clear hfz25_2
          try clear hfz25_3
          try clear hfz25_4
          try clear hfz26_0
          try clear hfz26_1
          try clear hfz26_2
          try clear hfz26_3
          try clear hfz26_4
          try clear hfz30_0
          try clear hfz30_1
          try clear hfz30_2
          try clear hfz30_3
          try clear hfz30_4
          try clear hfz32_0
          try clear hfz32_1
          try clear hfz32_2
          try clear hfz32_3
          try clear hfz32_4
          try clear hfz33_0
          try clear hfz33_1
          try clear hfz33_2
          try clear hfz33_3
          try clear hfz33_4
          try clear hfz34_0
          try clear hfz34_1
          try clear hfz34_2
          try clear hfz34_3
          try clear hfz34_4
          try clear hfz5_0
          try clear hfz5_1
          try clear hfz5_2
          try clear hfz5_3
          try clear hfz5_4
          try clear hfz8_0
          try clear hfz8_1
          try clear hfz8_2
          try clear hfz8_3
          try clear hfz8_4
          try clear p2
          obtain ⟨kq, x76_26, rfl, HA, HJ26, BK245, HB⟩ := hcut
          cases kq with
          | zero => exact absurd (show none = some _ from HA.out) (by simp)
          | succ kj26 =>
           have H := HA.out
           clear HA
           simp only [cambiumref19_Good.j3] at H
           by_cases c35 : x76_26 = true
           ·subst c35
            have H1 : (some false) = some r := by rw [if_pos rfl] at H; exact H
            clear H
            have H := H1
            clear H1
            obtain rfl := Option.some.inj H
            go_wp2
            go_ret
            exact ⟨q9_, by repeat (first | (with_reducible first | exact HB.out | apply below_alloc | apply pw_below_drewN | apply below_drew1 | refine below_set ?_ GE245.out) | exact HB.out)⟩
           ·replace c35 := Bool.eq_false_iff.mpr c35
            subst c35
            have H1 : (if a0_0 = 4 then (if (l0_4.length : Int) ≥ 1 then (some (decide ((l0_4.length : Int) ≤ 128))) else (some false)) else (some ((l0_4.length : Int) == 0))) = some r := by rw [if_neg (show ¬ (false = true) by decide)] at H; exact H
            clear H
            have H := H1
            clear H1
            by_cases c36 : a0_0 = 4
            ·rw [if_pos c36] at H
             have c36b0 : (a0_0 == 4) = true := beq_iff_eq.mpr c36
             have c36b1 : (a0_0 != 4) = false := bne_eq_false_iff_eq.mpr c36
             clear c36
             by_cases c37 : (l0_4.length : Int) ≥ 1
             ·rw [if_pos c37] at H
              have c37b0 : decide (1 ≤ (l0_4.length : Int)) = true := decide_eq_true c37
              have c37b1 : decide (1 ≤ l0_4.length) = true := decide_eq_true (by omega)
              clear c37
              obtain rfl := Option.some.inj H
              have hcz38_0 : wc.cell? ⟨gb245, 0, none⟩ = some (.int .i64 a0_0) := (blk_cell BK245.out 0).trans rfl
              have hcz38_1 : wc.cell? ⟨gb245, 1, none⟩ = some (.string a0_1) := (blk_cell BK245.out 1).trans rfl
              have hcz38_2 : wc.cell? ⟨gb245, 2, none⟩ = some (.string a0_2) := (blk_cell BK245.out 2).trans rfl
              have hcz38_3 : wc.cell? ⟨gb245, 3, none⟩ = some (.int .i64 a0_3) := (blk_cell BK245.out 3).trans rfl
              have hcz38_4 : wc.cell? ⟨gb245, 4, none⟩ = some (.slice A0_4 l0_4.length c0_4) := (blk_cell BK245.out 4).trans rfl
              have hfz38_0 := blk_frozen BK245.out 0
              have hfz38_1 := blk_frozen BK245.out 1
              have hfz38_2 := blk_frozen BK245.out 2
              have hfz38_3 := blk_frozen BK245.out 3
              have hfz38_4 := blk_frozen BK245.out 4
              go_wp2
              go_ret
              exact ⟨q9_, by repeat (first | (with_reducible first | exact HB.out | apply below_alloc | apply pw_below_drewN | apply below_drew1 | refine below_set ?_ GE245.out) | exact HB.out)⟩
             ·rw [if_neg c37] at H
              have c37b0 : decide (1 ≤ (l0_4.length : Int)) = false := decide_eq_false c37
              have c37b1 : decide (1 ≤ l0_4.length) = false := decide_eq_false (by omega)
              clear c37
              obtain rfl := Option.some.inj H
              have hcz39_0 : wc.cell? ⟨gb245, 0, none⟩ = some (.int .i64 a0_0) := (blk_cell BK245.out 0).trans rfl
              have hcz39_1 : wc.cell? ⟨gb245, 1, none⟩ = some (.string a0_1) := (blk_cell BK245.out 1).trans rfl
              have hcz39_2 : wc.cell? ⟨gb245, 2, none⟩ = some (.string a0_2) := (blk_cell BK245.out 2).trans rfl
              have hcz39_3 : wc.cell? ⟨gb245, 3, none⟩ = some (.int .i64 a0_3) := (blk_cell BK245.out 3).trans rfl
              have hcz39_4 : wc.cell? ⟨gb245, 4, none⟩ = some (.slice A0_4 l0_4.length c0_4) := (blk_cell BK245.out 4).trans rfl
              have hfz39_0 := blk_frozen BK245.out 0
              have hfz39_1 := blk_frozen BK245.out 1
              have hfz39_2 := blk_frozen BK245.out 2
              have hfz39_3 := blk_frozen BK245.out 3
              have hfz39_4 := blk_frozen BK245.out 4
              go_wp2
              go_ret
              exact ⟨q9_, by repeat (first | (with_reducible first | exact HB.out | apply below_alloc | apply pw_below_drewN | apply below_drew1 | refine below_set ?_ GE245.out) | exact HB.out)⟩
            ·rw [if_neg c36] at H
             have c36b0 : (a0_0 == 4) = false := beq_eq_false_iff_ne.mpr c36
             have c36b1 : (a0_0 != 4) = true := bne_iff_ne.mpr c36
             obtain rfl := Option.some.inj H
             have hcz40_0 : wc.cell? ⟨gb245, 0, none⟩ = some (.int .i64 a0_0) := (blk_cell BK245.out 0).trans rfl
             have hcz40_1 : wc.cell? ⟨gb245, 1, none⟩ = some (.string a0_1) := (blk_cell BK245.out 1).trans rfl
             have hcz40_2 : wc.cell? ⟨gb245, 2, none⟩ = some (.string a0_2) := (blk_cell BK245.out 2).trans rfl
             have hcz40_3 : wc.cell? ⟨gb245, 3, none⟩ = some (.int .i64 a0_3) := (blk_cell BK245.out 3).trans rfl
             have hcz40_4 : wc.cell? ⟨gb245, 4, none⟩ = some (.slice A0_4 l0_4.length c0_4) := (blk_cell BK245.out 4).trans rfl
             have hfz40_0 := blk_frozen BK245.out 0
             have hfz40_1 := blk_frozen BK245.out 1
             have hfz40_2 := blk_frozen BK245.out 2
             have hfz40_3 := blk_frozen BK245.out 3
             have hfz40_4 := blk_frozen BK245.out 4
             go_wp2
             go_ret
             exact ⟨q9_, by repeat (first | (with_reducible first | exact HB.out | apply below_alloc | apply pw_below_drewN | apply below_drew1 | refine below_set ?_ GE245.out) | exact HB.out)⟩
end Go.Proofs.YtgklipfeheohkaaDoor.P
