import Derived.Test.YtgklipfeheohkaaDoorPx0
import Derived.Test.YtgklipfeheohkaaDoorPx5
import Derived.Test.YtgklipfeheohkaaDoorPx6
namespace Go.Proofs.YtgklipfeheohkaaDoor.P
open Go.RowKit Go.Proofs.YtgklipfeheohkaaDoorW.PrintWords Go.Proofs.YtgklipfeheohkaaDoorW.PrintLast Go.Proofs.YtgklipfeheohkaaDoorW.PrintMore
attribute [local go_sem] max2_int min2_int max_two min_two max_three min_three max_four min_four   -- for this text's walks alone
set_option linter.unusedVariables false
set_option linter.unusedSimpArgs false
theorem q12_ {P : Prop} (h : P := by repeat (first | (with_reducible first | exact HB.out | apply below_alloc | apply pw_below_drewN | apply below_drew1 | refine below_set ?_ GE283.out) | exact HB.out)) : P := h
theorem q34_ {P : Prop} (h : P := by (with_reducible repeat (first | refine blk_drewN ?_ _ | refine blk_drew ?_ | refine blk_alloc ?_ _)); refine blk_put (cs := #[.int .i64 ((rd_T37 l0 x7_2).f0), .string ((rd_T37 l0 x7_2).f1), .string ((rd_T37 l0 x7_2).f2), .int .i64 ((rd_T37 l0 x7_2).f3), .slice none 0 0]) ?_ 4 _ rfl; (with_reducible repeat (first | refine blk_drewN ?_ _ | refine blk_drew ?_ | refine blk_alloc ?_ _)); refine blk_put (cs := #[.int .i64 ((rd_T37 l0 x7_2).f0), .string ((rd_T37 l0 x7_2).f1), .string ((rd_T37 l0 x7_2).f2), .int .i64 0, .slice none 0 0]) ?_ 3 _ rfl; (with_reducible repeat (first | refine blk_drewN ?_ _ | refine blk_drew ?_ | refine blk_alloc ?_ _)); refine blk_put (cs := #[.int .i64 ((rd_T37 l0 x7_2).f0), .string ((rd_T37 l0 x7_2).f1), .string (⟨#[]⟩ : ByteArray), .int .i64 0, .slice none 0 0]) ?_ 2 _ rfl; (with_reducible repeat (first | refine blk_drewN ?_ _ | refine blk_drew ?_ | refine blk_alloc ?_ _)); refine blk_put (cs := #[.int .i64 ((rd_T37 l0 x7_2).f0), .string (⟨#[]⟩ : ByteArray), .string (⟨#[]⟩ : ByteArray), .int .i64 0, .slice none 0 0]) ?_ 1 _ rfl; (with_reducible repeat (first | refine blk_drewN ?_ _ | refine blk_drew ?_ | refine blk_alloc ?_ _)); refine blk_put (cs := #[.int .i64 0, .string (⟨#[]⟩ : ByteArray), .string (⟨#[]⟩ : ByteArray), .int .i64 0, .slice none 0 0]) ?_ 0 _ rfl; (with_reducible repeat (first | refine blk_drewN ?_ _ | refine blk_drew ?_ | refine blk_alloc ?_ _)); exact BK283.out) : P := h
theorem q41_ {P : Prop} (h : P := by (with_reducible repeat (first | refine blk_drewN ?_ _ | refine blk_drew ?_ | refine blk_alloc ?_ _)); exact BK283.out) : P := h
theorem q59_ {P : Prop} (h : P := by (with_reducible repeat (first | apply Kd.R_alloc | apply Kd.R_drewN | apply Kd.R_drew)); exact (Kd.R_mono (Kd.R_far (p := ⟨gb283, 4, none⟩) (Kd.R_far (p := ⟨gb283, 3, none⟩) (Kd.R_far (p := ⟨gb283, 2, none⟩) (Kd.R_far (p := ⟨gb283, 1, none⟩) (Kd.R_far (p := ⟨gb283, 0, none⟩) (Kd.R_types HO_6.out BK283.out (by decide)) (fun _ hk => hk.2) (.int .i64 ((rd_T37 l0 x7_2).f0))) (fun _ hk => hk.2) (.string ((rd_T37 l0 x7_2).f1))) (fun _ hk => hk.2) (.string ((rd_T37 l0 x7_2).f2))) (fun _ hk => hk.2) (.int .i64 ((rd_T37 l0 x7_2).f3))) (fun _ hk => hk.2) (.slice A282_4 ((rd_T37 l0 x7_2).f4).length c282_4)) (fun _ h_ => h_.1))) : P := h
mutual
def cambiumref19_Put.j0 : Nat → List (S37) → List Int → Option (List Int × Int)
 | 0, _, _ => none
 | k + 1, x0, x6 => cambiumref19_Put.l0 k x0 x6 0
def cambiumref19_Put.l0 : Nat → List (S37) → List Int → Int → Option (List Int × Int)
 | 0, _, _, _ => none
 | k + 1, x0, x6, x7 => if x7 < (x0.length : Int) then (if 0 ≤ x7 then ((cambiumref19_Good.f k ((rd_T37 x0 x7).f0) ((rd_T37 x0 x7).f1) ((rd_T37 x0 x7).f2) ((rd_T37 x0 x7).f3) ((rd_T37 x0 x7).f4)).bind fun t284 => (if t284 = true then ((cambiumref01_Put.f k x6 ((rd_T37 x0 x7).f0) 1).bind fun t285 => ((cambiumref01_PutText.f k t285 ((rd_T37 x0 x7).f1)).bind fun bt288 => (if ((rd_T37 x0 x7).f0) = 3 then ((cambiumref01_PutText.f k bt288.1 ((rd_T37 x0 x7).f2)).bind fun bt292 => (cambiumref19_Put.j2 k x0 bt292.1 x7 ((rd_T37 x0 x7).f0) ((rd_T37 x0 x7).f1) ((rd_T37 x0 x7).f2) ((rd_T37 x0 x7).f3) ((rd_T37 x0 x7).f4))) else (cambiumref19_Put.j2 k x0 bt288.1 x7 ((rd_T37 x0 x7).f0) ((rd_T37 x0 x7).f1) ((rd_T37 x0 x7).f2) ((rd_T37 x0 x7).f3) ((rd_T37 x0 x7).f4))))) else (some (([] : List Int), 1)))) else (none)) else (if x6.length < 140737488355328 then ((some (x6 ++ [8] : List Int)).bind fun y307 => ((cambiumref02_Sum.f k y307).bind fun t310 => ((cambiumref19_low.f t310).bind fun t311 => (if y307.length + t311.length < 140737488355328 then ((some (y307 ++ t311 : List Int)).bind fun y314 => (if (y314.length : Int) > 65536 then (some (([] : List Int), 7)) else (some (y314, 0)))) else (none))))) else (none))
def cambiumref19_Put.j2 : Nat → List (S37) → List Int → Int → Int → ByteArray → ByteArray → Int → List Int → Option (List Int × Int)
 | 0, _, _, _, _, _, _, _, _ => none
 | k + 1, x0, x6, x7, x284000, x284001, x284002, x284003, x284004 => if x284000 = 4 then (cambiumref19_Put.j3 k x0 x6 x7 true x284000 x284001 x284002 x284003 x284004) else (cambiumref19_Put.j3 k x0 x6 x7 (x284000 == 5) x284000 x284001 x284002 x284003 x284004)
def cambiumref19_Put.j3 : Nat → List (S37) → List Int → Int → Bool → Int → ByteArray → ByteArray → Int → List Int → Option (List Int × Int)
 | 0, _, _, _, _, _, _, _, _, _ => none
 | k + 1, x0, x6, x7, x55, x284000, x284001, x284002, x284003, x284004 => if x55 = true then ((cambiumref01_Put.f k x6 x284003 4).bind fun t296 => (if x284000 = 4 then ((cambiumref01_PutBytes.f k t296 x284004).bind fun bt299 => (cambiumref19_Put.l0 k x0 bt299.1 (wrap64 (x7 + 1)))) else (cambiumref19_Put.l0 k x0 t296 (wrap64 (x7 + 1))))) else (if x284000 = 4 then ((cambiumref01_PutBytes.f k x6 x284004).bind fun bt303 => (cambiumref19_Put.l0 k x0 bt303.1 (wrap64 (x7 + 1)))) else (cambiumref19_Put.l0 k x0 x6 (wrap64 (x7 + 1))))
end
def cambiumref19_Put.f (k : Nat) (l0 : List (S37)) (a1 : Bool) : Option (List Int × Int) := (some (([67, 66, 0] : List Int) : List Int)).bind fun y278 => (if a1 = true then (if 2 < (y278.length : Int) then (cambiumref19_Put.j0 k l0 (y278.set (2 : Int).toNat 1)) else (none)) else (cambiumref19_Put.j0 k l0 y278))
def cambiumref19_Put.T11 : Bool × List (List Nat × List Nat) := (true, [([], []), ([], []), ([1], [1]), ([0, 2], [0, 2]), ([], []), ([4], [4]), ([3, 5, 3], [3, 5]), ([6], [6]), ([7], [7]), ([7], [7]), ([8, 6, 0, 1, 2, 3, 4, 5, 6, 7, 8], [0, 8])])
def cambiumref19_Put.B11 : List Nat := [0, 0, 2, 7, 0, 16, 63, 127, 255, 255, 511]
theorem cambiumref19_Put.tab11 : rtab .any (opsOf Tryd.f20 11) = cambiumref19_Put.T11 := by kernel_rfl
theorem cambiumref19_Put.bits11 : waitsOk cambiumref19_Put.T11.2 cambiumref19_Put.B11 = true := by kernel_rfl
set_option maxHeartbeats 8000000 in
set_option maxRecDepth 100000 in
theorem cambiumref19_Put.calls (k : Nat) (A0 : Option Addr) (c0 : Nat) (l0 : List (S37)) (a1 : Bool) (r1 : List Int) (r2 : Int) (w : World) (hr0 : Kd.C k37 w A0 l0.length l0) (hc0 : l0.length ≤ c0) (h : cambiumref19_Put.f k l0 a1 = some (r1, r2)) :
  Calls Tryd.prog 20 #[.slice A0 l0.length c0, .bool a1] w fun e w' => ∃ v0_ : Value, e = .returned (.tuple #[v0_, .int .i64 r2]) ∧ Kd.R (Kd.int .u8) 5 w' w.heap.size (fun _ => True) v0_ r1 ∧ Below w.heap.size w w' := by
 have hu37 := Tryd.underlying37
 have HR0 := Aside0.mk hr0
 have HC0 := Aside0.mk hc0
 clear hr0 hc0
 have HB := Aside0.mk (Below.refl w.heap.size w)
 have H : ((some (([67, 66, 0] : List Int) : List Int)).bind fun y278 => (if a1 = true then (if 2 < (y278.length : Int) then (cambiumref19_Put.j0 k l0 (y278.set (2 : Int).toNat 1)) else (none)) else (cambiumref19_Put.j0 k l0 y278))) = some (r1, r2) := h
 clear h
 obtain ⟨y278, hy278⟩ : ∃ y_ : List Int, y_ = (([67, 66, 0] : List Int)) := ⟨_, rfl⟩
 replace H : (if a1 = true then (if 2 < (y278.length : Int) then (cambiumref19_Put.j0 k l0 (y278.set (2 : Int).toNat 1)) else (none)) else (cambiumref19_Put.j0 k l0 y278)) = some (r1, r2) := by first | (rw [hy278]; with_reducible exact H) | (have H2_ := (Option.bind_some _ _).symm.trans H; rw [hy278]; with_reducible exact H2_) | (have H2_ := (Option.bind_some _ _).symm.trans H; with_reducible exact H2_) | with_reducible exact H | (rw [hy278]; exact H) | exact H
 have Ny278 := Aside0.mk hy278
 clear hy278
 have HC3 := Aside0.mk H
 clear H
 go_enter Tryd.func20, Tryd.ntmps20
 go_upto_if 11 with (first | ((with_reducible refine gate_dst (N := 10) rfl ?_); refine Kd.R_lit (Kd.int .u8) _ 5 ?hg (N := 10) ?hd (xs := ([67, 66, 0] : List Int)) (inner := [.int .u8 67, .int .u8 66, .int .u8 0]) (ok := fun _ => True) (okp := fun _ => True) ?hr ?hp (fun _ hk => hk) trivial (Below.refl _ _) (Nat.le_refl _) (by simp) ?_; (case hd => rfl); (case hg => rfl); (case hr => first | (go_simp; done) | (go_simp; rfl)); (case hp => exact (Reps.one (show Kd.M (Kd.int .u8) _ _ _ 67 [.int .u8 67] from rfl) (Reps.one (show Kd.M (Kd.int .u8) _ _ _ 66 [.int .u8 66] from rfl) (Reps.one (show Kd.M (Kd.int .u8) _ _ _ 0 [.int .u8 0] from rfl) (Reps.none _ _))))); intro v279 w4 ho5 hb hg_ hnew_; clear hg_ hnew_; (first | rw [← Ny278.out] at ho5 | (simp only [Int.reduceToNat] at ho5; rw [← Ny278.out] at ho5)); have n0_ := Aside0.mk (Kd.R_lower ho5 (below_size q0_)); have n1_ := Aside0.mk (below_step q0_ hb); clear HB; have HO280 := n0_; have HB := n1_; clear n0_ n1_; clear hb ho5))
 (try simp only [Act.put, List.setIfInBounds_toArray, List.set_cons_zero, List.set_cons_succ])
 go_cut [] (fun wc => ∃ (kq : Nat) (x6_2 : List Int), Aside0 (cambiumref19_Put.j0 kq l0 x6_2 = some (r1, r2)) ∧ Aside0 (kq ≤ k) ∧ Aside0 (Kd.R (Kd.int .u8) 5 wc w.heap.size (fun _ => True) v279 x6_2) ∧ Aside0 (Below w.heap.size w wc))
 case first =>
  have H := HC3.out
  clear HC3
  by_cases c6 : a1 = true
  ·subst c6
   have H1 : (if 2 < (y278.length : Int) then (cambiumref19_Put.j0 k l0 (y278.set (2 : Int).toNat 1)) else (none)) = some (r1, r2) := by rw [if_pos rfl] at H; exact H
   clear H
   have H := H1
   clear H1
   by_cases c7 : 2 < (y278.length : Int)
   ·rw [if_pos c7] at H
    have c7b0 : decide (2 < (y278.length : Int)) = true := decide_eq_true c7
    have c7b1 : decide (2 < y278.length) = true := decide_eq_true (by omega)
    clear c7
    (first | rw [c7b0] | (simp only [i64_w, i32_w]; rw [c7b0]) | skip)
    obtain ⟨y281, hy281⟩ : ∃ y_ : List Int, y_ = (y278.set (2 : Int).toNat 1) := ⟨_, rfl⟩
    replace H : (cambiumref19_Put.j0 k l0 y281) = some (r1, r2) := by first | (rw [hy281]; with_reducible exact H) | (have H2_ := (Option.bind_some _ _).symm.trans H; rw [hy281]; with_reducible exact H2_) | (have H2_ := (Option.bind_some _ _).symm.trans H; with_reducible exact H2_) | with_reducible exact H | (rw [hy281]; exact H) | exact H
    have Ny281 := Aside0.mk hy281
    clear hy281
    have H' := Aside0.mk H
    clear H
    have p8 : 0 ≤ (2 : Int) := (by omega)
    have q8 : (2 : Int) < ((y278.length : Int) : Int) := of_decide_eq_true q7_
    have qi8 : (2 < y278.length) = True := eq_true (by omega)
    obtain ⟨go8, co8, eo8, gb8, gl8, cl8, HG8⟩ := Kd.R_form HO280.out (by omega)
    (first | cases eo8 | (injection eo8 with ea_ en_ ec_; (first | subst ea_ | (injection ea_ with ea_; subst ea_)); subst ec_; clear en_))
    have GB8 := Aside0.mk gb8
    have GG8 := Aside0.mk HG8
    clear gb8 gl8 HG8
    obtain ⟨hx8_0, hf8_0⟩ := Kd.R_celln 0 HO280.out (2 : Int) p8 q8
    (try rw [show ((2 : Int)).toNat = 2 from rfl] at hx8_0)
    (try simp only [Nat.reduceMul, Nat.zero_mul, Nat.zero_add, Nat.reduceAdd] at hx8_0)
    (try rw [show ((2 : Int)).toNat = 2 from rfl] at hf8_0)
    (try simp only [Nat.reduceMul, Nat.zero_mul, Nat.zero_add, Nat.reduceAdd] at hf8_0)
    replace p8 := eq_true p8
    replace q8 := eq_true q8
    have HP9 := Kd.R_putg HO280.out (2 : Int) 1
    go_wp2_with (first | ((with_reducible refine gate_store (t := 5) (p := 13) rfl ?_); refine store_event (t := 5) (p := 13) (v := ?vo_w10) (w1 := (w4.setCell ⟨go8, (2 : Int).toNat, none⟩ (.int .u8 1))) ?hg ?ho ?hn ?hr ?_; (case ho => rfl); (case hg => rfl); (case hn => rfl); (case hr => first | (go_simp; done) | (go_simp; rfl)); intro w10 hw; have hg : w4.grownBy w10 (some go8) := (by rw [hw]; exact HP9.2); have hp_ : Kd.R (Kd.int .u8) 5 w10 w.heap.size (fun _ => True) (.slice (some ⟨go8, 0, none⟩) y278.length co8) y281 := (by rw [hw, Ny281.out]; exact HP9.1); clear HP9; have n0_ := Aside0.mk (hp_); have n1_ := Aside0.mk ((by rw [hw]; exact below_set (HB.out) GB8.out : Below w.heap.size w w10)); clear HO280; clear HB; have HO280 := n0_; have HB := n1_; clear n0_ n1_; clear hg hw hp_))
    go_meet
    case rel => exact ⟨_, (y281), H', ⟨q51_⟩, ⟨by (with_reducible repeat (first | apply Kd.R_alloc | apply Kd.R_drewN | apply Kd.R_drew)); exact HO280.out⟩, ⟨q0_⟩⟩
   ·rw [if_neg c7] at H
    exact absurd H (by simp)
  ·replace c6 := Bool.eq_false_iff.mpr c6
   subst c6
   have H1 : (cambiumref19_Put.j0 k l0 y278) = some (r1, r2) := by rw [if_neg (show ¬ (false = true) by decide)] at H; exact H
   clear H
   have H := H1
   clear H1
   have H' := Aside0.mk H
   clear H
   go_wp2
   go_meet
   case rel => exact ⟨_, (y278), H', ⟨q51_⟩, ⟨by (with_reducible repeat (first | apply Kd.R_alloc | apply Kd.R_drewN | apply Kd.R_drew)); exact HO280.out⟩, ⟨q0_⟩⟩
 case rest =>
  clear HC3
  try clear c2
  try clear p2
  try clear c6
  try clear c7
  try clear c7b0
  try clear c7b1
  try clear p8
  try clear q8
  try clear hx8
  try clear qi8
  try clear hf8
  try clear hx8_0
  try clear p8
  try clear q8
  obtain ⟨kq, x6_2, HA, HJ2, HO_6, HB⟩ := hcut
  cases kq with
  | zero => exact absurd (show none = some _ from HA.out) (by simp)
  | succ kj2 =>
   have H := HA.out
   clear HA
   simp only [cambiumref19_Put.j0] at H
   have H' := Aside0.mk H
   clear H
   go_wp2
   go_loopg [6, 7] kj2 (fun kq v6 v7 w' => ∃ (x6_2 : List Int) (x7_2 : Int), v7 = .int .i64 x7_2 ∧ Aside0 (cambiumref19_Put.l0 kq l0 x6_2 x7_2 = some (r1, r2)) ∧ Aside0 (kq ≤ kj2) ∧ Aside0 (Kd.R (Kd.int .u8) 5 w' w.heap.size (fun _ => True) v6 x6_2) ∧ Aside0 (Below w.heap.size w w'))
   case atStart => exact ⟨(x6_2), (0), q3_, H', ⟨Nat.le_refl _⟩, ⟨q5_⟩, ⟨q0_⟩⟩
   case round =>
    clear H'
    try clear c2
    try clear p2
    try clear c6
    try clear c7
    try clear c7b0
    try clear c7b1
    try clear p8
    try clear q8
    try clear hx8
    try clear qi8
    try clear hf8
    try clear hx8_0
    try clear p2
    try clear p8
    try clear q8
    obtain ⟨x6_2, x7_2, rfl, HA, HK2, HO_6, HB⟩ := hrel
    cases gk with
    | zero => exact absurd (show none = some _ from HA.out) (by simp)
    | succ k2 =>
     have H := HA.out
     clear HA
     simp only [cambiumref19_Put.l0] at H
     by_cases c11 : x7_2 < (l0.length : Int)
     ·rw [if_pos c11] at H
      have c11b0 : decide (x7_2 < (l0.length : Int)) = true := decide_eq_true c11
      clear c11
      by_cases c12 : 0 ≤ x7_2
      ·rw [if_pos c12] at H
       have c12b0 : decide (0 ≤ x7_2) = true := decide_eq_true c12
       clear c12
       replace H := Option.bind_eq_some_iff.mp H
       obtain ⟨t284, A130, H⟩ := H
       replace H : (if t284 = true then ((cambiumref01_Put.f k2 x6_2 ((rd_T37 l0 x7_2).f0) 1).bind fun t285 => ((cambiumref01_PutText.f k2 t285 ((rd_T37 l0 x7_2).f1)).bind fun bt288 => (if ((rd_T37 l0 x7_2).f0) = 3 then ((cambiumref01_PutText.f k2 bt288.1 ((rd_T37 l0 x7_2).f2)).bind fun bt292 => (cambiumref19_Put.j2 k2 l0 bt292.1 x7_2 ((rd_T37 l0 x7_2).f0) ((rd_T37 l0 x7_2).f1) ((rd_T37 l0 x7_2).f2) ((rd_T37 l0 x7_2).f3) ((rd_T37 l0 x7_2).f4))) else (cambiumref19_Put.j2 k2 l0 bt288.1 x7_2 ((rd_T37 l0 x7_2).f0) ((rd_T37 l0 x7_2).f1) ((rd_T37 l0 x7_2).f2) ((rd_T37 l0 x7_2).f3) ((rd_T37 l0 x7_2).f4))))) else (some (([] : List Int), 1))) = some (r1, r2) := H
       have A13 := Aside0.mk A130
       clear A130
       by_cases c14 : t284 = true
       ·subst c14
        have H1 : ((cambiumref01_Put.f k2 x6_2 ((rd_T37 l0 x7_2).f0) 1).bind fun t285 => ((cambiumref01_PutText.f k2 t285 ((rd_T37 l0 x7_2).f1)).bind fun bt288 => (if ((rd_T37 l0 x7_2).f0) = 3 then ((cambiumref01_PutText.f k2 bt288.1 ((rd_T37 l0 x7_2).f2)).bind fun bt292 => (cambiumref19_Put.j2 k2 l0 bt292.1 x7_2 ((rd_T37 l0 x7_2).f0) ((rd_T37 l0 x7_2).f1) ((rd_T37 l0 x7_2).f2) ((rd_T37 l0 x7_2).f3) ((rd_T37 l0 x7_2).f4))) else (cambiumref19_Put.j2 k2 l0 bt288.1 x7_2 ((rd_T37 l0 x7_2).f0) ((rd_T37 l0 x7_2).f1) ((rd_T37 l0 x7_2).f2) ((rd_T37 l0 x7_2).f3) ((rd_T37 l0 x7_2).f4))))) = some (r1, r2) := by rw [if_pos rfl] at H; exact H
        clear H
        have H := H1
        clear H1
        replace H := Option.bind_eq_some_iff.mp H
        obtain ⟨t285, A150, H⟩ := H
        replace H : ((cambiumref01_PutText.f k2 t285 ((rd_T37 l0 x7_2).f1)).bind fun bt288 => (if ((rd_T37 l0 x7_2).f0) = 3 then ((cambiumref01_PutText.f k2 bt288.1 ((rd_T37 l0 x7_2).f2)).bind fun bt292 => (cambiumref19_Put.j2 k2 l0 bt292.1 x7_2 ((rd_T37 l0 x7_2).f0) ((rd_T37 l0 x7_2).f1) ((rd_T37 l0 x7_2).f2) ((rd_T37 l0 x7_2).f3) ((rd_T37 l0 x7_2).f4))) else (cambiumref19_Put.j2 k2 l0 bt288.1 x7_2 ((rd_T37 l0 x7_2).f0) ((rd_T37 l0 x7_2).f1) ((rd_T37 l0 x7_2).f2) ((rd_T37 l0 x7_2).f3) ((rd_T37 l0 x7_2).f4)))) = some (r1, r2) := H
        have A15 := Aside0.mk A150
        clear A150
        replace H := Option.bind_eq_some_iff.mp H
        obtain ⟨⟨t288, t289⟩, A160, H⟩ := H
        replace H : (if ((rd_T37 l0 x7_2).f0) = 3 then ((cambiumref01_PutText.f k2 t288 ((rd_T37 l0 x7_2).f2)).bind fun bt292 => (cambiumref19_Put.j2 k2 l0 bt292.1 x7_2 ((rd_T37 l0 x7_2).f0) ((rd_T37 l0 x7_2).f1) ((rd_T37 l0 x7_2).f2) ((rd_T37 l0 x7_2).f3) ((rd_T37 l0 x7_2).f4))) else (cambiumref19_Put.j2 k2 l0 t288 x7_2 ((rd_T37 l0 x7_2).f0) ((rd_T37 l0 x7_2).f1) ((rd_T37 l0 x7_2).f2) ((rd_T37 l0 x7_2).f3) ((rd_T37 l0 x7_2).f4))) = some (r1, r2) := H
        have A16 := Aside0.mk A160
        clear A160
        have HC17 := Aside0.mk H
        clear H
        have p282 : 0 ≤ (x7_2 : Int) := of_decide_eq_true q7_
        have q282 : x7_2 < (l0.length : Int) := of_decide_eq_true q7_
        obtain ⟨ad282, A282_4, c282_4, e282, hx282_0, hx282_1, hx282_2, hx282_3, hx282_4, hl282_4, hi282_4⟩ := at_T37 HR0.out x7_2 p282 q282
        cases e282
        replace hx282_0 := (HB.out.cell (World.block_lt_of_cell? w _ hx282_0)).trans hx282_0
        replace hx282_1 := (HB.out.cell (World.block_lt_of_cell? w _ hx282_1)).trans hx282_1
        replace hx282_2 := (HB.out.cell (World.block_lt_of_cell? w _ hx282_2)).trans hx282_2
        replace hx282_3 := (HB.out.cell (World.block_lt_of_cell? w _ hx282_3)).trans hx282_3
        replace hx282_4 := (HB.out.cell (World.block_lt_of_cell? w _ hx282_4)).trans hx282_4
        have HR282_4 := Aside0.mk hi282_4
        have HC282_4 := Aside0.mk hl282_4
        clear hi282_4 hl282_4
        replace p282 := eq_true p282
        replace q282 := eq_true q282
        try go_wp2_with (first | ((with_reducible refine gate_dst (N := 8) rfl ?_); refine box_event ?hg (N := 8) ?hd (cs := #[.int .i64 0, .string (⟨#[]⟩ : ByteArray), .string (⟨#[]⟩ : ByteArray), .int .i64 0, .slice none 0 0]) (t := 37) ?hr ?_; (case hd => rfl); (case hg => rfl); (case hr => first | (go_simp; done) | (go_simp; rfl)); intro gb283 hg w18 hbox hb; have n0_ := Aside0.mk (Kd.R_below q5_ hb); have n1_ := Aside0.mk (below_step q0_ hb); have n2_ := Aside0.mk (hbox); have n3_ := Aside0.mk ((by rw [hg]; exact (below_size q0_) : w.heap.size ≤ gb283)); have n4_ := Aside0.mk ((by rw [hg]; exact (below_size q0_) : w.heap.size ≤ gb283)); clear HO_6; clear HB; have HO_6 := n0_; have HB := n1_; have BK283 := n2_; have GW283 := n3_; have GE283 := n4_; clear n0_ n1_ n2_ n3_ n4_; clear hb hbox hg; have hcz19_0 : w18.cell? ⟨gb283, 0, none⟩ = some (.int .i64 0) := (blk_cell BK283.out 0).trans rfl; have hcz19_1 : w18.cell? ⟨gb283, 1, none⟩ = some (.string (⟨#[]⟩ : ByteArray)) := (blk_cell BK283.out 1).trans rfl; have hcz19_2 : w18.cell? ⟨gb283, 2, none⟩ = some (.string (⟨#[]⟩ : ByteArray)) := (blk_cell BK283.out 2).trans rfl; have hcz19_3 : w18.cell? ⟨gb283, 3, none⟩ = some (.int .i64 0) := (blk_cell BK283.out 3).trans rfl; have hcz19_4 : w18.cell? ⟨gb283, 4, none⟩ = some (.slice none 0 0) := (blk_cell BK283.out 4).trans rfl; have hfz19_0 := blk_frozen BK283.out 0; have hfz19_1 := blk_frozen BK283.out 1; have hfz19_2 := blk_frozen BK283.out 2; have hfz19_3 := blk_frozen BK283.out 3; have hfz19_4 := blk_frozen BK283.out 4) | ((with_reducible refine gate_callee (f := 18) rfl ?_); refine goesL_ (some 25) rfl rfl Tryd.func18 q18_ rfl #[.agg #[.int .i64 ((rd_T37 l0 x7_2).f0), .string ((rd_T37 l0 x7_2).f1), .string ((rd_T37 l0 x7_2).f2), .int .i64 ((rd_T37 l0 x7_2).f3), .slice A282_4 ((rd_T37 l0 x7_2).f4).length c282_4]] rfl q1_ ?_; (with_reducible refine (cambiumref19_Good.calls k2 ((rd_T37 l0 x7_2).f0) ((rd_T37 l0 x7_2).f1) ((rd_T37 l0 x7_2).f2) ((rd_T37 l0 x7_2).f3) _ _ ((rd_T37 l0 x7_2).f4) true _ ?side1 ?side2 A13.out).mono ?_); (case side1 => exact Kd.C_below HR282_4.out q12_); (case side2 => exact HC282_4.out); rintro e w20 ⟨rfl, hb⟩; refine ⟨_, rfl, ?_⟩; have n0_ := Aside0.mk (Kd.R_below q59_ hb); have n1_ := Aside0.mk (blk_below (g := gb283) (o := .cells #[.int .i64 ((rd_T37 l0 x7_2).f0), .string ((rd_T37 l0 x7_2).f1), .string ((rd_T37 l0 x7_2).f2), .int .i64 ((rd_T37 l0 x7_2).f3), .slice A282_4 ((rd_T37 l0 x7_2).f4).length c282_4] 37 (0, 0)) q34_ hb); have n2_ := Aside0.mk (below_step q12_ hb); clear HO_6; clear BK283; clear HB; have HO_6 := n0_; have BK283 := n1_; have HB := n2_; clear n0_ n1_ n2_; (try clear hb); (try clear hb2); (try clear hk); (try clear hi)))
        have n0_ := Aside0.mk (Kd.R_drew HO_6.out)
        have n1_ := Aside0.mk (blk_drew BK283.out)
        have n2_ := Aside0.mk (below_drew1 HB.out)
        clear HO_6
        clear BK283
        clear HB
        have HO_6 := n0_
        have BK283 := n1_
        have HB := n2_
        clear n0_ n1_ n2_
        obtain ⟨Ao22, co22, eo22⟩ := Kd.R_slice HO_6.out
        (first | subst eo22 | (injection eo22 with f1_ f2_ f3_; have f4_ := f1_.symm; have f5_ := f3_.symm; clear f1_ f2_ f3_; subst f4_; subst f5_))
        refine start_ (n := 11) (S := fun w' => w'.cell? ⟨gb283, 0, none⟩ = some (.int .i64 ((rd_T37 l0 x7_2).f0)) ∧ w'.cell? ⟨gb283, 1, none⟩ = some (.string ((rd_T37 l0 x7_2).f1)) ∧ w'.cell? ⟨gb283, 2, none⟩ = some (.string ((rd_T37 l0 x7_2).f2)) ∧ w'.cell? ⟨gb283, 3, none⟩ = some (.int .i64 ((rd_T37 l0 x7_2).f3)) ∧ w'.cell? ⟨gb283, 4, none⟩ = some (.slice A282_4 ((rd_T37 l0 x7_2).f4).length c282_4)) (ds := []) (bl_ 11 0) q18_ rfl rfl ⟨(blk_cell BK283.out 0).trans rfl, (blk_cell BK283.out 1).trans rfl, (blk_cell BK283.out 2).trans rfl, (blk_cell BK283.out 3).trans rfl, (blk_cell BK283.out 4).trans rfl⟩ (fun hHeld => ?_); refine with_tabW cambiumref19_Put.tab11 cambiumref19_Put.bits11 (fun HT_ HW_ => ?_)
        generalize w20.drew = w21 at HO_6 BK283 HB hHeld ⊢
        refine pure_ (i := 0) (N := some 29) (v := ?_) (a' := ?_) (bl_ 11 1) rfl rfl (any_of HT_.out q18_) (fun _ _ _ h => h) (Or.inl ⟨by rfl, ?_⟩) ?_ ?_
        rotate_left
        ·intro w'
         go_simp
         with_reducible rfl
        rotate_left
        ·simp only [Act.put, List.setIfInBounds_toArray, List.set_cons_zero, List.set_cons_succ, i64_w, i32_w]
         rfl
        refine pure_ (i := 1) (N := some 30) (v := ?_) (a' := ?_) (bl_ 11 3) rfl rfl (any_of HT_.out q18_) (fun _ _ _ h => h) (Or.inl ⟨by rfl, ?_⟩) ?_ ?_
        rotate_left
        ·intro w'
         go_simp
         with_reducible rfl
        rotate_left
        ·simp only [Act.put, List.setIfInBounds_toArray, List.set_cons_zero, List.set_cons_succ, i64_w, i32_w]
         rfl
        refine pure_ (i := 4) (N := some 33) (v := ?_) (a' := ?_) (bl_ 11 19) rfl rfl (any_of HT_.out q18_) (fun _ _ _ h => h) (Or.inl ⟨by rfl, ?_⟩) ?_ ?_
        rotate_left
        ·intro w'
         go_simp
         with_reducible rfl
        rotate_left
        ·simp only [Act.put, List.setIfInBounds_toArray, List.set_cons_zero, List.set_cons_succ, i64_w, i32_w]
         rfl
        refine take_ (i := 2) (N := some 31) (v := ?_) (a' := ?_) (bl_ 11 23) rfl rfl (take_ofW HT_.out HW_.out q18_) (fun _ _ _ h => h) (Or.inl ⟨by rfl, ?_⟩) hHeld ?_ ?_
        rotate_left
        ·rintro w' ⟨s0, s1, s2, s3, s4⟩
         go_simp
         with_reducible rfl
        rotate_left
        ·simp only [Act.put, List.setIfInBounds_toArray, List.set_cons_zero, List.set_cons_succ, i64_w, i32_w]
         rfl
        refine take_ (i := 5) (N := some 34) (v := ?_) (a' := ?_) (bl_ 11 55) rfl rfl (take_ofW HT_.out HW_.out q18_) (fun _ _ _ h => h) (Or.inl ⟨by rfl, ?_⟩) hHeld ?_ ?_
        rotate_left
        ·rintro w' ⟨s0, s1, s2, s3, s4⟩
         go_simp
         with_reducible rfl
        rotate_left
        ·simp only [Act.put, List.setIfInBounds_toArray, List.set_cons_zero, List.set_cons_succ, i64_w, i32_w]
         rfl
        refine one_ (i := 3) (N := some 32) (bl_ 11 63) rfl rfl (one_of HT_.out q18_) q81_ (fun K hK => ?_)
        refine goes_ Tryd.func34 q18_ rfl #[.slice Ao22 x6_2.length co22, .int .i64 ((rd_T37 l0 x7_2).f0), .int .i64 1] (by rfl) rfl rfl q1_ ?_
        with_reducible refine (cambiumref01_Put.calls k2 _ _ x6_2 ((rd_T37 l0 x7_2).f0) 1 t285 _ ?side1 ?side2 A15.out).mono ?_
        (case side1 => repeat (first | exact (Kd.R_reads' HO_6.out).2.2 | (with_reducible refine Kd.C_alloc ?_ _) | (with_reducible refine Kd.C_drewN ?_ _) | (with_reducible refine Kd.C_drew ?_)))
        (case side2 => exact (Kd.R_reads' HO_6.out).2.1)
        rintro e w23 ⟨v286, rfl, ho0, hb⟩
        refine ⟨_, rfl, ?_⟩
        have n0_ := Aside0.mk (Kd.R_elder' q5_ (Kd.R_base ho0) hb)
        have n1_ := Aside0.mk (Kd.R_lower (Kd.R_new' ho0 (Kd.R_lt q5_)) (below_size q12_))
        have n2_ := Aside0.mk (blk_below (g := gb283) (o := .cells #[.int .i64 ((rd_T37 l0 x7_2).f0), .string ((rd_T37 l0 x7_2).f1), .string ((rd_T37 l0 x7_2).f2), .int .i64 ((rd_T37 l0 x7_2).f3), .slice A282_4 ((rd_T37 l0 x7_2).f4).length c282_4] 37 (0, 0)) q41_ hb)
        have n3_ := Aside0.mk (below_step q12_ hb)
        clear HO_6
        clear BK283
        clear HB
        have HO_6 := n0_
        have HO287 := n1_
        have BK283 := n2_
        have HB := n3_
        clear n0_ n1_ n2_ n3_
        (try clear hb)
        (try clear hb2)
        (try clear hk)
        (try clear hi)
        (try clear ho0)
        obtain ⟨Ao24, co24, eo24⟩ := Kd.R_slice HO287.out
        (first | subst eo24 | (injection eo24 with f1_ f2_ f3_; have f4_ := f1_.symm; have f5_ := f3_.symm; clear f1_ f2_ f3_; subst f4_; subst f5_))
        refine hK.out _ _ ⟨(blk_cell BK283.out 0).trans rfl, (blk_cell BK283.out 1).trans rfl, (blk_cell BK283.out 2).trans rfl, (blk_cell BK283.out 3).trans rfl, (blk_cell BK283.out 4).trans rfl⟩ (fun hHeld => ?_)
        clear hK K
        refine norm_ (a' := ?_) ?_ ?_
        rotate_left
        ·show Act.put _ (some 32) _ = _
         simp only [Act.put, List.setIfInBounds_toArray, List.set_cons_zero, List.set_cons_succ, i64_w, i32_w]
         rfl
        refine one_ (i := 6) (N := some 35) (bl_ 11 127) rfl rfl (one_of HT_.out q18_) q81_ (fun K hK => ?_)
        refine goes_ Tryd.func33 q18_ rfl #[.slice Ao24 t285.length co24, .string ((rd_T37 l0 x7_2).f1)] (by rfl) rfl rfl q1_ ?_
        with_reducible refine (cambiumref01_PutText.calls k2 _ _ t285 ((rd_T37 l0 x7_2).f1) t288 t289 _ ?side1 ?side2 A16.out).mono ?_
        (case side1 => repeat (first | exact (Kd.R_reads' HO287.out).2.2 | (with_reducible refine Kd.C_alloc ?_ _) | (with_reducible refine Kd.C_drewN ?_ _) | (with_reducible refine Kd.C_drew ?_)))
        (case side2 => exact (Kd.R_reads' HO287.out).2.1)
        rintro e w25 ⟨v290, rfl, ho0, hb⟩
        refine ⟨_, rfl, ?_⟩
        have n0_ := Aside0.mk (Kd.R_elder' q5_ (Kd.R_base ho0) hb)
        have n1_ := Aside0.mk (Kd.R_elder' (by (with_reducible repeat (first | apply Kd.R_alloc | apply Kd.R_drewN | apply Kd.R_drew)); exact HO287.out) (Kd.R_base ho0) hb)
        have n2_ := Aside0.mk (Kd.R_lower (Kd.R_new' (Kd.R_new' ho0 (Kd.R_lt q5_)) (Kd.R_lt (by (with_reducible repeat (first | apply Kd.R_alloc | apply Kd.R_drewN | apply Kd.R_drew)); exact HO287.out))) (below_size q12_))
        have n3_ := Aside0.mk (blk_below (g := gb283) (o := .cells #[.int .i64 ((rd_T37 l0 x7_2).f0), .string ((rd_T37 l0 x7_2).f1), .string ((rd_T37 l0 x7_2).f2), .int .i64 ((rd_T37 l0 x7_2).f3), .slice A282_4 ((rd_T37 l0 x7_2).f4).length c282_4] 37 (0, 0)) q41_ hb)
        have n4_ := Aside0.mk (below_step q12_ hb)
        clear HO_6
        clear HO287
        clear BK283
        clear HB
        have HO_6 := n0_
        have HO287 := n1_
        have HO291 := n2_
        have BK283 := n3_
        have HB := n4_
        clear n0_ n1_ n2_ n3_ n4_
        (try clear hb)
        (try clear hb2)
        (try clear hk)
        (try clear hi)
        (try clear ho0)
        refine hK.out _ _ ⟨(blk_cell BK283.out 0).trans rfl, (blk_cell BK283.out 1).trans rfl, (blk_cell BK283.out 2).trans rfl, (blk_cell BK283.out 3).trans rfl, (blk_cell BK283.out 4).trans rfl⟩ (fun hHeld => ?_)
        clear hK K
        refine norm_ (a' := ?_) ?_ ?_
        rotate_left
        ·show Act.put _ (some 35) _ = _
         simp only [Act.put, List.setIfInBounds_toArray, List.set_cons_zero, List.set_cons_succ, i64_w, i32_w]
         rfl
        refine pure_ (i := 7) (N := some 28) (v := ?_) (a' := ?_) (bl_ 11 255) rfl rfl (any_of HT_.out q18_) (fun _ _ _ h => h) (Or.inl ⟨by rfl, ?_⟩) ?_ ?_
        rotate_left
        ·intro w'
         go_simp
         with_reducible rfl
        rotate_left
        ·simp only [Act.put, List.setIfInBounds_toArray, List.set_cons_zero, List.set_cons_succ, i64_w, i32_w]
         rfl
        refine pure_ (i := 8) (N := some 36) (v := ?_) (a' := ?_) (bl_ 11 511) rfl rfl (any_of HT_.out q18_) (fun _ _ _ h => h) (Or.inl ⟨by rfl, ?_⟩) ?_ ?_
        rotate_left
        ·intro w'
         go_simp
         with_reducible rfl
        rotate_left
        ·simp only [Act.put, List.setIfInBounds_toArray, List.set_cons_zero, List.set_cons_succ, i64_w, i32_w]
         rfl
        refine pure_ (i := 9) (N := some 37) (v := ?_) (a' := ?_) (bl_ 11 1023) rfl rfl (any_of HT_.out q18_) (fun _ _ _ h => h) (Or.inl ⟨by rfl, ?_⟩) ?_ ?_
        rotate_left
        ·intro w'
         go_simp
         with_reducible rfl
        rotate_left
        ·simp only [Act.put, List.setIfInBounds_toArray, List.set_cons_zero, List.set_cons_succ, i64_w, i32_w]
         rfl
        refine pure_ (i := 10) (N := some 6) (v := ?_) (a' := ?_) (bl_ 11 2047) rfl rfl (any_of HT_.out q18_) (fun _ _ _ h => h) (Or.inl ⟨by rfl, ?_⟩) ?_ ?_
        rotate_left
        ·intro w'
         go_simp
         with_reducible rfl
        rotate_left
        ·simp only [Act.put, List.setIfInBounds_toArray, List.set_cons_zero, List.set_cons_succ, i64_w, i32_w]
         rfl
        refine done_ (done_of HT_.out q18_) ?_
        have hcz26_0 : w25.cell? ⟨gb283, 0, none⟩ = some (.int .i64 ((rd_T37 l0 x7_2).f0)) := (blk_cell BK283.out 0).trans rfl
        have hcz26_1 : w25.cell? ⟨gb283, 1, none⟩ = some (.string ((rd_T37 l0 x7_2).f1)) := (blk_cell BK283.out 1).trans rfl
        have hcz26_2 : w25.cell? ⟨gb283, 2, none⟩ = some (.string ((rd_T37 l0 x7_2).f2)) := (blk_cell BK283.out 2).trans rfl
        have hcz26_3 : w25.cell? ⟨gb283, 3, none⟩ = some (.int .i64 ((rd_T37 l0 x7_2).f3)) := (blk_cell BK283.out 3).trans rfl
        have hcz26_4 : w25.cell? ⟨gb283, 4, none⟩ = some (.slice A282_4 ((rd_T37 l0 x7_2).f4).length c282_4) := (blk_cell BK283.out 4).trans rfl
        have hfz26_0 := blk_frozen BK283.out 0
        have hfz26_1 := blk_frozen BK283.out 1
        have hfz26_2 := blk_frozen BK283.out 2
        have hfz26_3 := blk_frozen BK283.out 3
        have hfz26_4 := blk_frozen BK283.out 4
        go_upto_if 40 with (fail)
        go_cut [6] (fun v6 wc => ∃ (kq : Nat) (x6_16 : List Int), Aside0 (cambiumref19_Put.j2 kq l0 x6_16 x7_2 ((rd_T37 l0 x7_2).f0) ((rd_T37 l0 x7_2).f1) ((rd_T37 l0 x7_2).f2) ((rd_T37 l0 x7_2).f3) ((rd_T37 l0 x7_2).f4) = some (r1, r2)) ∧ Aside0 (kq ≤ k2) ∧ Aside0 (Kd.R (Kd.int .u8) 5 wc w.heap.size (fun _ => True) v6 x6_16) ∧ Aside0 (wc.heap[gb283]? = some (.cells #[.int .i64 ((rd_T37 l0 x7_2).f0), .string ((rd_T37 l0 x7_2).f1), .string ((rd_T37 l0 x7_2).f2), .int .i64 ((rd_T37 l0 x7_2).f3), (.slice A282_4 ((rd_T37 l0 x7_2).f4).length c282_4)] 37 (0, 0))) ∧ Aside0 (Below w.heap.size w wc))
        case first =>
         have H := HC17.out
         clear HC17
         by_cases c27 : ((rd_T37 l0 x7_2).f0) = 3
         ·rw [if_pos c27] at H
          have c27b0 : (((rd_T37 l0 x7_2).f0) == 3) = true := beq_iff_eq.mpr c27
          have c27b1 : (((rd_T37 l0 x7_2).f0) != 3) = false := bne_eq_false_iff_eq.mpr c27
          clear c27
          (first | rw [c27b0] | (simp only [i64_w, i32_w]; rw [c27b0]) | skip)
          replace H := Option.bind_eq_some_iff.mp H
          obtain ⟨⟨t292, t293⟩, A280, H⟩ := H
          replace H : (cambiumref19_Put.j2 k2 l0 t292 x7_2 ((rd_T37 l0 x7_2).f0) ((rd_T37 l0 x7_2).f1) ((rd_T37 l0 x7_2).f2) ((rd_T37 l0 x7_2).f3) ((rd_T37 l0 x7_2).f4)) = some (r1, r2) := H
          have A28 := Aside0.mk A280
          clear A280
          have H' := Aside0.mk H
          clear H
          have hcz29_0 : w25.cell? ⟨gb283, 0, none⟩ = some (.int .i64 ((rd_T37 l0 x7_2).f0)) := (blk_cell BK283.out 0).trans rfl
          have hcz29_1 : w25.cell? ⟨gb283, 1, none⟩ = some (.string ((rd_T37 l0 x7_2).f1)) := (blk_cell BK283.out 1).trans rfl
          have hcz29_2 : w25.cell? ⟨gb283, 2, none⟩ = some (.string ((rd_T37 l0 x7_2).f2)) := (blk_cell BK283.out 2).trans rfl
          have hcz29_3 : w25.cell? ⟨gb283, 3, none⟩ = some (.int .i64 ((rd_T37 l0 x7_2).f3)) := (blk_cell BK283.out 3).trans rfl
          have hcz29_4 : w25.cell? ⟨gb283, 4, none⟩ = some (.slice A282_4 ((rd_T37 l0 x7_2).f4).length c282_4) := (blk_cell BK283.out 4).trans rfl
          have hfz29_0 := blk_frozen BK283.out 0
          have hfz29_1 := blk_frozen BK283.out 1
          have hfz29_2 := blk_frozen BK283.out 2
          have hfz29_3 := blk_frozen BK283.out 3
          have hfz29_4 := blk_frozen BK283.out 4
          obtain ⟨Ao30, co30, eo30⟩ := Kd.R_slice HO291.out
          subst eo30
          go_wp2_with (first | ((with_reducible refine gate_callee (f := 33) rfl ?_); refine goesL_ (some 45) rfl rfl Tryd.func33 q18_ rfl #[.slice Ao30 t288.length co30, .string ((rd_T37 l0 x7_2).f2)] rfl q1_ ?_; (with_reducible refine (cambiumref01_PutText.calls k2 _ _ t288 ((rd_T37 l0 x7_2).f2) t292 t293 _ ?side1 ?side2 A28.out).mono ?_); (case side1 => repeat (first | exact (Kd.R_reads' HO291.out).2.2 | (with_reducible refine Kd.C_alloc ?_ _) | (with_reducible refine Kd.C_drewN ?_ _) | (with_reducible refine Kd.C_drew ?_))); (case side2 => exact (Kd.R_reads' HO291.out).2.1); rintro e w31 ⟨v294, rfl, ho0, hb⟩; refine ⟨_, rfl, ?_⟩; have n0_ := Aside0.mk (Kd.R_elder' q5_ (Kd.R_base ho0) hb); have n1_ := Aside0.mk (Kd.R_elder' (by (with_reducible repeat (first | apply Kd.R_alloc | apply Kd.R_drewN | apply Kd.R_drew)); exact HO287.out) (Kd.R_base ho0) hb); have n2_ := Aside0.mk (Kd.R_elder' (by (with_reducible repeat (first | apply Kd.R_alloc | apply Kd.R_drewN | apply Kd.R_drew)); exact HO291.out) (Kd.R_base ho0) hb); have n3_ := Aside0.mk (Kd.R_lower (Kd.R_new' (Kd.R_new' (Kd.R_new' ho0 (Kd.R_lt q5_)) (Kd.R_lt (by (with_reducible repeat (first | apply Kd.R_alloc | apply Kd.R_drewN | apply Kd.R_drew)); exact HO287.out))) (Kd.R_lt (by (with_reducible repeat (first | apply Kd.R_alloc | apply Kd.R_drewN | apply Kd.R_drew)); exact HO291.out))) (below_size q12_)); have n4_ := Aside0.mk (blk_below (g := gb283) (o := .cells #[.int .i64 ((rd_T37 l0 x7_2).f0), .string ((rd_T37 l0 x7_2).f1), .string ((rd_T37 l0 x7_2).f2), .int .i64 ((rd_T37 l0 x7_2).f3), .slice A282_4 ((rd_T37 l0 x7_2).f4).length c282_4] 37 (0, 0)) q41_ hb); have n5_ := Aside0.mk (below_step q12_ hb); clear HO_6; clear HO287; clear HO291; clear BK283; clear HB; have HO_6 := n0_; have HO287 := n1_; have HO291 := n2_; have HO295 := n3_; have BK283 := n4_; have HB := n5_; clear n0_ n1_ n2_ n3_ n4_ n5_; (try clear hb); (try clear hb2); (try clear hk); (try clear hi); (try clear ho0)))
          go_meet
          case rel => exact ⟨_, (t292), H', ⟨by have := HJ2.out; have := HK2.out; first | omega | exact Nat.le_refl _⟩, ⟨by (with_reducible repeat (first | apply Kd.R_alloc | apply Kd.R_drewN | apply Kd.R_drew)); exact Kd.R_mono HO295.out (fun _ hk => trivial)⟩, ⟨q41_⟩, ⟨q12_⟩⟩
         ·rw [if_neg c27] at H
          have c27b0 : (((rd_T37 l0 x7_2).f0) == 3) = false := beq_eq_false_iff_ne.mpr c27
          have c27b1 : (((rd_T37 l0 x7_2).f0) != 3) = true := bne_iff_ne.mpr c27
          (first | rw [c27b0] | (simp only [i64_w, i32_w]; rw [c27b0]) | skip)
          have H' := Aside0.mk H
          clear H
          go_wp2
          go_meet
          case rel => exact ⟨_, (t288), H', ⟨by have := HJ2.out; have := HK2.out; first | omega | exact Nat.le_refl _⟩, ⟨by (with_reducible repeat (first | apply Kd.R_alloc | apply Kd.R_drewN | apply Kd.R_drew)); exact Kd.R_mono HO291.out (fun _ hk => trivial)⟩, ⟨q41_⟩, ⟨q12_⟩⟩
        case rest =>
         clear HC17
         try clear c1
         try clear c2
         try clear p2
         try clear q2
         try clear hx2
         try clear c3
         try clear c6
         try clear c7
         try clear c7b0
         try clear c7b1
         try clear p8
         try clear q8
         try clear hx8
         try clear qi8
         try clear hf8
         try clear c11
         try clear c11b0
         try clear c12
         try clear c12b0
         try clear c14
         try clear c18
         try clear c20
         try clear c27
         try clear c27b0
         try clear c27b1
         try clear c28
         try clear p28
         try clear q28
         try clear hx28
         try clear hcz19_0
         try clear hcz19_1
         try clear hcz19_2
         try clear hcz19_3
         try clear hcz19_4
         try clear hcz26_0
         try clear hcz26_1
         try clear hcz26_2
         try clear hcz26_3
         try clear hcz26_4
         try clear hcz29_0
         try clear hcz29_1
         try clear hcz29_2
         try clear hcz29_3
         try clear hcz29_4
         try clear hfz19_0
         try clear hfz19_1
         try clear hfz19_2
         try clear hfz19_3
         try clear hfz19_4
         try clear hfz26_0
         try clear hfz26_1
         try clear hfz26_2
         try clear hfz26_3
         try clear hfz26_4
         try clear hfz29_0
         try clear hfz29_1
         try clear hfz29_2
         try clear hfz29_3
         try clear hfz29_4
         try clear hx282_0
         try clear hx282_1
         try clear hx282_2
         try clear hx282_3
         try clear hx282_4
         try clear hx8_0
         try clear p2
         try clear p282
         try clear p8
         try clear q282
         try clear q8
         obtain ⟨kq, x6_16, HA, HJ16, HO_6, BK283, HB⟩ := hcut
         cases kq with
         | zero => exact absurd (show none = some _ from HA.out) (by simp)
         | succ kj16 =>
          have H := HA.out
          clear HA
          simp only [cambiumref19_Put.j2] at H
          have HC32 := Aside0.mk H
          clear H
          go_upto_region 14 with (fail)
          go_cut [55] (fun v55 wc => ∃ (kq : Nat) (x55_31 : Bool), v55 = .bool x55_31 ∧ Aside0 (cambiumref19_Put.j3 kq l0 x6_16 x7_2 x55_31 ((rd_T37 l0 x7_2).f0) ((rd_T37 l0 x7_2).f1) ((rd_T37 l0 x7_2).f2) ((rd_T37 l0 x7_2).f3) ((rd_T37 l0 x7_2).f4) = some (r1, r2)) ∧ Aside0 (kq ≤ kj16) ∧ Aside0 (Kd.R (Kd.int .u8) 5 wc w.heap.size (fun _ => True) u6 x6_16) ∧ Aside0 (wc.heap[gb283]? = some (.cells #[.int .i64 ((rd_T37 l0 x7_2).f0), .string ((rd_T37 l0 x7_2).f1), .string ((rd_T37 l0 x7_2).f2), .int .i64 ((rd_T37 l0 x7_2).f3), (.slice A282_4 ((rd_T37 l0 x7_2).f4).length c282_4)] 37 (0, 0))) ∧ Aside0 (Below w.heap.size w wc))
          case first =>
           have H := HC32.out
           clear HC32
           by_cases c33 : ((rd_T37 l0 x7_2).f0) = 4
           ·rw [if_pos c33] at H
            have c33b0 : (((rd_T37 l0 x7_2).f0) == 4) = true := beq_iff_eq.mpr c33
            have c33b1 : (((rd_T37 l0 x7_2).f0) != 4) = false := bne_eq_false_iff_eq.mpr c33
            clear c33
            (first | rw [c33b0] | (simp only [i64_w, i32_w]; rw [c33b0]) | skip)
            have H' := Aside0.mk H
            clear H
            have hcz34_0 : wc.cell? ⟨gb283, 0, none⟩ = some (.int .i64 ((rd_T37 l0 x7_2).f0)) := (blk_cell BK283.out 0).trans rfl
            have hcz34_1 : wc.cell? ⟨gb283, 1, none⟩ = some (.string ((rd_T37 l0 x7_2).f1)) := (blk_cell BK283.out 1).trans rfl
            have hcz34_2 : wc.cell? ⟨gb283, 2, none⟩ = some (.string ((rd_T37 l0 x7_2).f2)) := (blk_cell BK283.out 2).trans rfl
            have hcz34_3 : wc.cell? ⟨gb283, 3, none⟩ = some (.int .i64 ((rd_T37 l0 x7_2).f3)) := (blk_cell BK283.out 3).trans rfl
            have hcz34_4 : wc.cell? ⟨gb283, 4, none⟩ = some (.slice A282_4 ((rd_T37 l0 x7_2).f4).length c282_4) := (blk_cell BK283.out 4).trans rfl
            have hfz34_0 := blk_frozen BK283.out 0
            have hfz34_1 := blk_frozen BK283.out 1
            have hfz34_2 := blk_frozen BK283.out 2
            have hfz34_3 := blk_frozen BK283.out 3
            have hfz34_4 := blk_frozen BK283.out 4
            go_wp2
            go_meet
            case rel => exact ⟨_, (true), q3_, H', ⟨by have := HJ2.out; have := HK2.out; have := HJ16.out; first | omega | exact Nat.le_refl _⟩, ⟨q5_⟩, ⟨q41_⟩, ⟨q12_⟩⟩
           ·rw [if_neg c33] at H
            have c33b0 : (((rd_T37 l0 x7_2).f0) == 4) = false := beq_eq_false_iff_ne.mpr c33
            have c33b1 : (((rd_T37 l0 x7_2).f0) != 4) = true := bne_iff_ne.mpr c33
            (first | rw [c33b0] | (simp only [i64_w, i32_w]; rw [c33b0]) | skip)
            have H' := Aside0.mk H
            clear H
            have hcz35_0 : wc.cell? ⟨gb283, 0, none⟩ = some (.int .i64 ((rd_T37 l0 x7_2).f0)) := (blk_cell BK283.out 0).trans rfl
            have hcz35_1 : wc.cell? ⟨gb283, 1, none⟩ = some (.string ((rd_T37 l0 x7_2).f1)) := (blk_cell BK283.out 1).trans rfl
            have hcz35_2 : wc.cell? ⟨gb283, 2, none⟩ = some (.string ((rd_T37 l0 x7_2).f2)) := (blk_cell BK283.out 2).trans rfl
            have hcz35_3 : wc.cell? ⟨gb283, 3, none⟩ = some (.int .i64 ((rd_T37 l0 x7_2).f3)) := (blk_cell BK283.out 3).trans rfl
            have hcz35_4 : wc.cell? ⟨gb283, 4, none⟩ = some (.slice A282_4 ((rd_T37 l0 x7_2).f4).length c282_4) := (blk_cell BK283.out 4).trans rfl
            have hfz35_0 := blk_frozen BK283.out 0
            have hfz35_1 := blk_frozen BK283.out 1
            have hfz35_2 := blk_frozen BK283.out 2
            have hfz35_3 := blk_frozen BK283.out 3
            have hfz35_4 := blk_frozen BK283.out 4
            go_wp2
            go_meet
            case rel => exact ⟨_, ((((rd_T37 l0 x7_2).f0) == 5)), q3_, H', ⟨by have := HJ2.out; have := HK2.out; have := HJ16.out; first | omega | exact Nat.le_refl _⟩, ⟨q5_⟩, ⟨q41_⟩, ⟨q12_⟩⟩
          case rest =>
           clear HC32
           try clear c1
           try clear c2
           try clear p2
           try clear q2
           try clear hx2
           try clear c3
           try clear c6
           try clear c7
           try clear c7b0
           try clear c7b1
           try clear p8
           try clear q8
           try clear hx8
           try clear qi8
           try clear hf8
           try clear c11
           try clear c11b0
           try clear c12
           try clear c12b0
           try clear c14
           try clear c18
           try clear c20
           try clear c27
           try clear c27b0
           try clear c27b1
           try clear c28
           try clear p28
           try clear q28
           try clear hx28
           try clear c33
           try clear c33b0
           try clear c33b1
           try clear c34
           try clear hcz19_0
           try clear hcz19_1
           try clear hcz19_2
           try clear hcz19_3
           try clear hcz19_4
           try clear hcz26_0
           try clear hcz26_1
           try clear hcz26_2
           try clear hcz26_3
           try clear hcz26_4
           try clear hcz29_0
           try clear hcz29_1
           try clear hcz29_2
           try clear hcz29_3
           try clear hcz29_4
           try clear hcz34_0
           try clear hcz34_1
           try clear hcz34_2
           try clear hcz34_3
           try clear hcz34_4
           try clear hcz35_0
           try clear hcz35_1
           try clear hcz35_2
           try clear hcz35_3
           try clear hcz35_4
           try clear hfz19_0
           try clear hfz19_1
           try clear hfz19_2
           try clear hfz19_3
           try clear hfz19_4
           try clear hfz26_0
           try clear hfz26_1
           try clear hfz26_2
           try clear hfz26_3
           try clear hfz26_4
           try clear hfz29_0
           try clear hfz29_1
           try clear hfz29_2
           try clear hfz29_3
           try clear hfz29_4
           try clear hfz34_0
           try clear hfz34_1
           try clear hfz34_2
           try clear hfz34_3
           try clear hfz34_4
           try clear hfz35_0
           try clear hfz35_1
           try clear hfz35_2
           try clear hfz35_3
           try clear hfz35_4
           try clear hx282_0
           try clear hx282_1
           try clear hx282_2
           try clear hx282_3
           try clear hx282_4
           try clear hx8_0
           try clear p2
           try clear p28
           try clear p282
           try clear p8
           try clear q2
           try clear q28
           try clear q282
           try clear q8
           obtain ⟨kq, x55_31, rfl, HA, HJ31, HO_6, BK283, HB⟩ := hcut
           cases kq with
           | zero => exact absurd (show none = some _ from HA.out) (by simp)
           | succ kj31 =>
            have H := HA.out
            clear HA
            simp only [cambiumref19_Put.j3] at H
            by_cases c36 : x55_31 = true
            ·subst c36
             have H1 : ((cambiumref01_Put.f kj31 x6_16 ((rd_T37 l0 x7_2).f3) 4).bind fun t296 => (if ((rd_T37 l0 x7_2).f0) = 4 then ((cambiumref01_PutBytes.f kj31 t296 ((rd_T37 l0 x7_2).f4)).bind fun bt299 => (cambiumref19_Put.l0 kj31 l0 bt299.1 (wrap64 (x7_2 + 1)))) else (cambiumref19_Put.l0 kj31 l0 t296 (wrap64 (x7_2 + 1))))) = some (r1, r2) := by rw [if_pos rfl] at H; exact H
             clear H
             have H := H1
             clear H1
             replace H := Option.bind_eq_some_iff.mp H
             obtain ⟨t296, A370, H⟩ := H
             replace H : (if ((rd_T37 l0 x7_2).f0) = 4 then ((cambiumref01_PutBytes.f kj31 t296 ((rd_T37 l0 x7_2).f4)).bind fun bt299 => (cambiumref19_Put.l0 kj31 l0 bt299.1 (wrap64 (x7_2 + 1)))) else (cambiumref19_Put.l0 kj31 l0 t296 (wrap64 (x7_2 + 1)))) = some (r1, r2) := H
             have A37 := Aside0.mk A370
             clear A370
             by_cases c38 : ((rd_T37 l0 x7_2).f0) = 4
             ·rw [if_pos c38] at H
              have c38b0 : (((rd_T37 l0 x7_2).f0) == 4) = true := beq_iff_eq.mpr c38
              have c38b1 : (((rd_T37 l0 x7_2).f0) != 4) = false := bne_eq_false_iff_eq.mpr c38
              clear c38
              replace H := Option.bind_eq_some_iff.mp H
              obtain ⟨⟨t299, t300⟩, A390, H⟩ := H
              replace H : (cambiumref19_Put.l0 kj31 l0 t299 (wrap64 (x7_2 + 1))) = some (r1, r2) := H
              have A39 := Aside0.mk A390
              clear A390
              have H' := Aside0.mk H
              clear H
              have hcz40_0 : wc.cell? ⟨gb283, 0, none⟩ = some (.int .i64 ((rd_T37 l0 x7_2).f0)) := (blk_cell BK283.out 0).trans rfl
              have hcz40_1 : wc.cell? ⟨gb283, 1, none⟩ = some (.string ((rd_T37 l0 x7_2).f1)) := (blk_cell BK283.out 1).trans rfl
              have hcz40_2 : wc.cell? ⟨gb283, 2, none⟩ = some (.string ((rd_T37 l0 x7_2).f2)) := (blk_cell BK283.out 2).trans rfl
              have hcz40_3 : wc.cell? ⟨gb283, 3, none⟩ = some (.int .i64 ((rd_T37 l0 x7_2).f3)) := (blk_cell BK283.out 3).trans rfl
              have hcz40_4 : wc.cell? ⟨gb283, 4, none⟩ = some (.slice A282_4 ((rd_T37 l0 x7_2).f4).length c282_4) := (blk_cell BK283.out 4).trans rfl
              have hfz40_0 := blk_frozen BK283.out 0
              have hfz40_1 := blk_frozen BK283.out 1
              have hfz40_2 := blk_frozen BK283.out 2
              have hfz40_3 := blk_frozen BK283.out 3
              have hfz40_4 := blk_frozen BK283.out 4
              obtain ⟨Ao41, co41, eo41⟩ := Kd.R_slice HO_6.out
              subst eo41
              go_wp2_with (first | ((with_reducible refine gate_callee (f := 34) rfl ?_); refine goesL_ (some 59) rfl rfl Tryd.func34 q18_ rfl #[.slice Ao41 x6_16.length co41, .int .i64 ((rd_T37 l0 x7_2).f3), .int .i64 4] rfl q1_ ?_; (with_reducible refine (cambiumref01_Put.calls kj31 _ _ x6_16 ((rd_T37 l0 x7_2).f3) 4 t296 _ ?side1 ?side2 A37.out).mono ?_); (case side1 => repeat (first | exact (Kd.R_reads' HO_6.out).2.2 | (with_reducible refine Kd.C_alloc ?_ _) | (with_reducible refine Kd.C_drewN ?_ _) | (with_reducible refine Kd.C_drew ?_))); (case side2 => exact (Kd.R_reads' HO_6.out).2.1); rintro e w42 ⟨v297, rfl, ho0, hb⟩; refine ⟨_, rfl, ?_⟩; have n0_ := Aside0.mk (Kd.R_elder' q5_ (Kd.R_base ho0) hb); have n1_ := Aside0.mk (Kd.R_lower (Kd.R_new' ho0 (Kd.R_lt q5_)) (below_size q12_)); have n2_ := Aside0.mk (blk_below (g := gb283) (o := .cells #[.int .i64 ((rd_T37 l0 x7_2).f0), .string ((rd_T37 l0 x7_2).f1), .string ((rd_T37 l0 x7_2).f2), .int .i64 ((rd_T37 l0 x7_2).f3), .slice A282_4 ((rd_T37 l0 x7_2).f4).length c282_4] 37 (0, 0)) q41_ hb); have n3_ := Aside0.mk (below_step q12_ hb); clear HO_6; clear BK283; clear HB; have HO_6 := n0_; have HO298 := n1_; have BK283 := n2_; have HB := n3_; clear n0_ n1_ n2_ n3_; (try clear hb); (try clear hb2); (try clear hk); (try clear hi); (try clear ho0); have hcz43_0 : w42.cell? ⟨gb283, 0, none⟩ = some (.int .i64 ((rd_T37 l0 x7_2).f0)) := (blk_cell BK283.out 0).trans rfl; have hcz43_1 : w42.cell? ⟨gb283, 1, none⟩ = some (.string ((rd_T37 l0 x7_2).f1)) := (blk_cell BK283.out 1).trans rfl; have hcz43_2 : w42.cell? ⟨gb283, 2, none⟩ = some (.string ((rd_T37 l0 x7_2).f2)) := (blk_cell BK283.out 2).trans rfl; have hcz43_3 : w42.cell? ⟨gb283, 3, none⟩ = some (.int .i64 ((rd_T37 l0 x7_2).f3)) := (blk_cell BK283.out 3).trans rfl; have hcz43_4 : w42.cell? ⟨gb283, 4, none⟩ = some (.slice A282_4 ((rd_T37 l0 x7_2).f4).length c282_4) := (blk_cell BK283.out 4).trans rfl; have hfz43_0 := blk_frozen BK283.out 0; have hfz43_1 := blk_frozen BK283.out 1; have hfz43_2 := blk_frozen BK283.out 2; have hfz43_3 := blk_frozen BK283.out 3; have hfz43_4 := blk_frozen BK283.out 4; obtain ⟨Ao44, co44, eo44⟩ := Kd.R_slice HO298.out; subst eo44) | ((with_reducible refine gate_callee (f := 35) rfl ?_); refine goesL_ (some 67) rfl rfl Tryd.func35 q18_ rfl #[.slice Ao44 t296.length co44, .slice A282_4 ((rd_T37 l0 x7_2).f4).length c282_4] rfl q1_ ?_; (with_reducible refine (cambiumref01_PutBytes.calls kj31 _ _ t296 _ _ ((rd_T37 l0 x7_2).f4) t299 t300 _ ?side1 ?side2 ?side3 ?side4 A39.out).mono ?_); (case side1 => repeat (first | exact (Kd.R_reads' HO298.out).2.2 | (with_reducible refine Kd.C_alloc ?_ _) | (with_reducible refine Kd.C_drewN ?_ _) | (with_reducible refine Kd.C_drew ?_))); (case side2 => exact (Kd.R_reads' HO298.out).2.1); (case side3 => repeat (first | exact (Kd.C_below HR282_4.out HB.out) | (with_reducible refine Kd.C_alloc ?_ _) | (with_reducible refine Kd.C_drewN ?_ _) | (with_reducible refine Kd.C_drew ?_))); (case side4 => exact HC282_4.out); rintro e w45 ⟨v301, rfl, ho0, hb⟩; refine ⟨_, rfl, ?_⟩; have n0_ := Aside0.mk (Kd.R_elder' q5_ (Kd.R_base ho0) hb); have n1_ := Aside0.mk (Kd.R_elder' (by (with_reducible repeat (first | apply Kd.R_alloc | apply Kd.R_drewN | apply Kd.R_drew)); exact HO298.out) (Kd.R_base ho0) hb); have n2_ := Aside0.mk (Kd.R_lower (Kd.R_new' (Kd.R_new' ho0 (Kd.R_lt q5_)) (Kd.R_lt (by (with_reducible repeat (first | apply Kd.R_alloc | apply Kd.R_drewN | apply Kd.R_drew)); exact HO298.out))) (below_size q12_)); have n3_ := Aside0.mk (blk_below (g := gb283) (o := .cells #[.int .i64 ((rd_T37 l0 x7_2).f0), .string ((rd_T37 l0 x7_2).f1), .string ((rd_T37 l0 x7_2).f2), .int .i64 ((rd_T37 l0 x7_2).f3), .slice A282_4 ((rd_T37 l0 x7_2).f4).length c282_4] 37 (0, 0)) q41_ hb); have n4_ := Aside0.mk (below_step q12_ hb); clear HO_6; clear HO298; clear BK283; clear HB; have HO_6 := n0_; have HO298 := n1_; have HO302 := n2_; have BK283 := n3_; have HB := n4_; clear n0_ n1_ n2_ n3_ n4_; (try clear hb); (try clear hb2); (try clear hk); (try clear hi); (try clear ho0)))
              go_roundg kj31
              case measure => have := HJ2.out; have := HK2.out; have := HJ16.out; have := HJ31.out; omega
              case rel => exact ⟨(t299), (wrap64 (x7_2 + 1)), q3_, H', ⟨by have := HJ2.out; have := HK2.out; have := HJ16.out; have := HJ31.out; omega⟩, ⟨by (with_reducible repeat (first | apply Kd.R_alloc | apply Kd.R_drewN | apply Kd.R_drew)); exact Kd.R_mono HO302.out (fun _ hk => trivial)⟩, ⟨q12_⟩⟩
             ·rw [if_neg c38] at H
              have c38b0 : (((rd_T37 l0 x7_2).f0) == 4) = false := beq_eq_false_iff_ne.mpr c38
              have c38b1 : (((rd_T37 l0 x7_2).f0) != 4) = true := bne_iff_ne.mpr c38
              have H' := Aside0.mk H
              clear H
              have hcz46_0 : wc.cell? ⟨gb283, 0, none⟩ = some (.int .i64 ((rd_T37 l0 x7_2).f0)) := (blk_cell BK283.out 0).trans rfl
              have hcz46_1 : wc.cell? ⟨gb283, 1, none⟩ = some (.string ((rd_T37 l0 x7_2).f1)) := (blk_cell BK283.out 1).trans rfl
              have hcz46_2 : wc.cell? ⟨gb283, 2, none⟩ = some (.string ((rd_T37 l0 x7_2).f2)) := (blk_cell BK283.out 2).trans rfl
              have hcz46_3 : wc.cell? ⟨gb283, 3, none⟩ = some (.int .i64 ((rd_T37 l0 x7_2).f3)) := (blk_cell BK283.out 3).trans rfl
              have hcz46_4 : wc.cell? ⟨gb283, 4, none⟩ = some (.slice A282_4 ((rd_T37 l0 x7_2).f4).length c282_4) := (blk_cell BK283.out 4).trans rfl
              have hfz46_0 := blk_frozen BK283.out 0
              have hfz46_1 := blk_frozen BK283.out 1
              have hfz46_2 := blk_frozen BK283.out 2
              have hfz46_3 := blk_frozen BK283.out 3
              have hfz46_4 := blk_frozen BK283.out 4
              obtain ⟨Ao47, co47, eo47⟩ := Kd.R_slice HO_6.out
              subst eo47
              go_wp2_with (first | ((with_reducible refine gate_callee (f := 34) rfl ?_); refine goesL_ (some 59) rfl rfl Tryd.func34 q18_ rfl #[.slice Ao47 x6_16.length co47, .int .i64 ((rd_T37 l0 x7_2).f3), .int .i64 4] rfl q1_ ?_; (with_reducible refine (cambiumref01_Put.calls kj31 _ _ x6_16 ((rd_T37 l0 x7_2).f3) 4 t296 _ ?side1 ?side2 A37.out).mono ?_); (case side1 => repeat (first | exact (Kd.R_reads' HO_6.out).2.2 | (with_reducible refine Kd.C_alloc ?_ _) | (with_reducible refine Kd.C_drewN ?_ _) | (with_reducible refine Kd.C_drew ?_))); (case side2 => exact (Kd.R_reads' HO_6.out).2.1); rintro e w48 ⟨v297, rfl, ho0, hb⟩; refine ⟨_, rfl, ?_⟩; have n0_ := Aside0.mk (Kd.R_elder' q5_ (Kd.R_base ho0) hb); have n1_ := Aside0.mk (Kd.R_lower (Kd.R_new' ho0 (Kd.R_lt q5_)) (below_size q12_)); have n2_ := Aside0.mk (blk_below (g := gb283) (o := .cells #[.int .i64 ((rd_T37 l0 x7_2).f0), .string ((rd_T37 l0 x7_2).f1), .string ((rd_T37 l0 x7_2).f2), .int .i64 ((rd_T37 l0 x7_2).f3), .slice A282_4 ((rd_T37 l0 x7_2).f4).length c282_4] 37 (0, 0)) q41_ hb); have n3_ := Aside0.mk (below_step q12_ hb); clear HO_6; clear BK283; clear HB; have HO_6 := n0_; have HO298 := n1_; have BK283 := n2_; have HB := n3_; clear n0_ n1_ n2_ n3_; (try clear hb); (try clear hb2); (try clear hk); (try clear hi); (try clear ho0); have hcz49_0 : w48.cell? ⟨gb283, 0, none⟩ = some (.int .i64 ((rd_T37 l0 x7_2).f0)) := (blk_cell BK283.out 0).trans rfl; have hcz49_1 : w48.cell? ⟨gb283, 1, none⟩ = some (.string ((rd_T37 l0 x7_2).f1)) := (blk_cell BK283.out 1).trans rfl; have hcz49_2 : w48.cell? ⟨gb283, 2, none⟩ = some (.string ((rd_T37 l0 x7_2).f2)) := (blk_cell BK283.out 2).trans rfl; have hcz49_3 : w48.cell? ⟨gb283, 3, none⟩ = some (.int .i64 ((rd_T37 l0 x7_2).f3)) := (blk_cell BK283.out 3).trans rfl; have hcz49_4 : w48.cell? ⟨gb283, 4, none⟩ = some (.slice A282_4 ((rd_T37 l0 x7_2).f4).length c282_4) := (blk_cell BK283.out 4).trans rfl; have hfz49_0 := blk_frozen BK283.out 0; have hfz49_1 := blk_frozen BK283.out 1; have hfz49_2 := blk_frozen BK283.out 2; have hfz49_3 := blk_frozen BK283.out 3; have hfz49_4 := blk_frozen BK283.out 4))
              go_roundg kj31
              case measure => have := HJ2.out; have := HK2.out; have := HJ16.out; have := HJ31.out; omega
              case rel => exact ⟨(t296), (wrap64 (x7_2 + 1)), q3_, H', ⟨by have := HJ2.out; have := HK2.out; have := HJ16.out; have := HJ31.out; omega⟩, ⟨by (with_reducible repeat (first | apply Kd.R_alloc | apply Kd.R_drewN | apply Kd.R_drew)); exact Kd.R_mono HO298.out (fun _ hk => trivial)⟩, ⟨q12_⟩⟩
            ·replace c36 := Bool.eq_false_iff.mpr c36
             subst c36
             have H1 : (if ((rd_T37 l0 x7_2).f0) = 4 then ((cambiumref01_PutBytes.f kj31 x6_16 ((rd_T37 l0 x7_2).f4)).bind fun bt303 => (cambiumref19_Put.l0 kj31 l0 bt303.1 (wrap64 (x7_2 + 1)))) else (cambiumref19_Put.l0 kj31 l0 x6_16 (wrap64 (x7_2 + 1)))) = some (r1, r2) := by rw [if_neg (show ¬ (false = true) by decide)] at H; exact H
             clear H
             have H := H1
             clear H1
             by_cases c50 : ((rd_T37 l0 x7_2).f0) = 4
             ·rw [if_pos c50] at H
              have c50b0 : (((rd_T37 l0 x7_2).f0) == 4) = true := beq_iff_eq.mpr c50
              have c50b1 : (((rd_T37 l0 x7_2).f0) != 4) = false := bne_eq_false_iff_eq.mpr c50
              clear c50
              replace H := Option.bind_eq_some_iff.mp H
              obtain ⟨⟨t303, t304⟩, A510, H⟩ := H
              replace H : (cambiumref19_Put.l0 kj31 l0 t303 (wrap64 (x7_2 + 1))) = some (r1, r2) := H
              have A51 := Aside0.mk A510
              clear A510
              have H' := Aside0.mk H
              clear H
              have hcz52_0 : wc.cell? ⟨gb283, 0, none⟩ = some (.int .i64 ((rd_T37 l0 x7_2).f0)) := (blk_cell BK283.out 0).trans rfl
              have hcz52_1 : wc.cell? ⟨gb283, 1, none⟩ = some (.string ((rd_T37 l0 x7_2).f1)) := (blk_cell BK283.out 1).trans rfl
              have hcz52_2 : wc.cell? ⟨gb283, 2, none⟩ = some (.string ((rd_T37 l0 x7_2).f2)) := (blk_cell BK283.out 2).trans rfl
              have hcz52_3 : wc.cell? ⟨gb283, 3, none⟩ = some (.int .i64 ((rd_T37 l0 x7_2).f3)) := (blk_cell BK283.out 3).trans rfl
              have hcz52_4 : wc.cell? ⟨gb283, 4, none⟩ = some (.slice A282_4 ((rd_T37 l0 x7_2).f4).length c282_4) := (blk_cell BK283.out 4).trans rfl
              have hfz52_0 := blk_frozen BK283.out 0
              have hfz52_1 := blk_frozen BK283.out 1
              have hfz52_2 := blk_frozen BK283.out 2
              have hfz52_3 := blk_frozen BK283.out 3
              have hfz52_4 := blk_frozen BK283.out 4
              obtain ⟨Ao53, co53, eo53⟩ := Kd.R_slice HO_6.out
              subst eo53
              go_wp2_with (first | ((with_reducible refine gate_callee (f := 35) rfl ?_); refine goesL_ (some 67) rfl rfl Tryd.func35 q18_ rfl #[.slice Ao53 x6_16.length co53, .slice A282_4 ((rd_T37 l0 x7_2).f4).length c282_4] rfl q1_ ?_; (with_reducible refine (cambiumref01_PutBytes.calls kj31 _ _ x6_16 _ _ ((rd_T37 l0 x7_2).f4) t303 t304 _ ?side1 ?side2 ?side3 ?side4 A51.out).mono ?_); (case side1 => repeat (first | exact (Kd.R_reads' HO_6.out).2.2 | (with_reducible refine Kd.C_alloc ?_ _) | (with_reducible refine Kd.C_drewN ?_ _) | (with_reducible refine Kd.C_drew ?_))); (case side2 => exact (Kd.R_reads' HO_6.out).2.1); (case side3 => repeat (first | exact (Kd.C_below HR282_4.out HB.out) | (with_reducible refine Kd.C_alloc ?_ _) | (with_reducible refine Kd.C_drewN ?_ _) | (with_reducible refine Kd.C_drew ?_))); (case side4 => exact HC282_4.out); rintro e w54 ⟨v305, rfl, ho0, hb⟩; refine ⟨_, rfl, ?_⟩; have n0_ := Aside0.mk (Kd.R_elder' q5_ (Kd.R_base ho0) hb); have n1_ := Aside0.mk (Kd.R_lower (Kd.R_new' ho0 (Kd.R_lt q5_)) (below_size q12_)); have n2_ := Aside0.mk (blk_below (g := gb283) (o := .cells #[.int .i64 ((rd_T37 l0 x7_2).f0), .string ((rd_T37 l0 x7_2).f1), .string ((rd_T37 l0 x7_2).f2), .int .i64 ((rd_T37 l0 x7_2).f3), .slice A282_4 ((rd_T37 l0 x7_2).f4).length c282_4] 37 (0, 0)) q41_ hb); have n3_ := Aside0.mk (below_step q12_ hb); clear HO_6; clear BK283; clear HB; have HO_6 := n0_; have HO306 := n1_; have BK283 := n2_; have HB := n3_; clear n0_ n1_ n2_ n3_; (try clear hb); (try clear hb2); (try clear hk); (try clear hi); (try clear ho0)))
              go_roundg kj31
              case measure => have := HJ2.out; have := HK2.out; have := HJ16.out; have := HJ31.out; omega
              case rel => exact ⟨(t303), (wrap64 (x7_2 + 1)), q3_, H', ⟨by have := HJ2.out; have := HK2.out; have := HJ16.out; have := HJ31.out; omega⟩, ⟨by (with_reducible repeat (first | apply Kd.R_alloc | apply Kd.R_drewN | apply Kd.R_drew)); exact Kd.R_mono HO306.out (fun _ hk => trivial)⟩, ⟨q12_⟩⟩
             ·rw [if_neg c50] at H
              have c50b0 : (((rd_T37 l0 x7_2).f0) == 4) = false := beq_eq_false_iff_ne.mpr c50
              have c50b1 : (((rd_T37 l0 x7_2).f0) != 4) = true := bne_iff_ne.mpr c50
              have H' := Aside0.mk H
              clear H
              have hcz55_0 : wc.cell? ⟨gb283, 0, none⟩ = some (.int .i64 ((rd_T37 l0 x7_2).f0)) := (blk_cell BK283.out 0).trans rfl
              have hcz55_1 : wc.cell? ⟨gb283, 1, none⟩ = some (.string ((rd_T37 l0 x7_2).f1)) := (blk_cell BK283.out 1).trans rfl
              have hcz55_2 : wc.cell? ⟨gb283, 2, none⟩ = some (.string ((rd_T37 l0 x7_2).f2)) := (blk_cell BK283.out 2).trans rfl
              have hcz55_3 : wc.cell? ⟨gb283, 3, none⟩ = some (.int .i64 ((rd_T37 l0 x7_2).f3)) := (blk_cell BK283.out 3).trans rfl
              have hcz55_4 : wc.cell? ⟨gb283, 4, none⟩ = some (.slice A282_4 ((rd_T37 l0 x7_2).f4).length c282_4) := (blk_cell BK283.out 4).trans rfl
              have hfz55_0 := blk_frozen BK283.out 0
              have hfz55_1 := blk_frozen BK283.out 1
              have hfz55_2 := blk_frozen BK283.out 2
              have hfz55_3 := blk_frozen BK283.out 3
              have hfz55_4 := blk_frozen BK283.out 4
              go_wp2
              go_roundg kj31
              case measure => have := HJ2.out; have := HK2.out; have := HJ16.out; have := HJ31.out; omega
              case rel => exact ⟨(x6_16), (wrap64 (x7_2 + 1)), q3_, H', ⟨by have := HJ2.out; have := HK2.out; have := HJ16.out; have := HJ31.out; omega⟩, ⟨q5_⟩, ⟨q12_⟩⟩
       ·replace c14 := Bool.eq_false_iff.mpr c14
        subst c14
        have H1 : (some (([] : List Int), 1)) = some (r1, r2) := by rw [if_neg (show ¬ (false = true) by decide)] at H; exact H
        clear H
        have H := H1
        clear H1
        simp only [Option.some.injEq, Prod.mk.injEq] at H
        obtain ⟨rfl, rfl⟩ := H
        have p282 : 0 ≤ (x7_2 : Int) := of_decide_eq_true q7_
        have q282 : x7_2 < (l0.length : Int) := of_decide_eq_true q7_
        obtain ⟨ad282, A282_4, c282_4, e282, hx282_0, hx282_1, hx282_2, hx282_3, hx282_4, hl282_4, hi282_4⟩ := at_T37 HR0.out x7_2 p282 q282
        cases e282
        replace hx282_0 := (HB.out.cell (World.block_lt_of_cell? w _ hx282_0)).trans hx282_0
        replace hx282_1 := (HB.out.cell (World.block_lt_of_cell? w _ hx282_1)).trans hx282_1
        replace hx282_2 := (HB.out.cell (World.block_lt_of_cell? w _ hx282_2)).trans hx282_2
        replace hx282_3 := (HB.out.cell (World.block_lt_of_cell? w _ hx282_3)).trans hx282_3
        replace hx282_4 := (HB.out.cell (World.block_lt_of_cell? w _ hx282_4)).trans hx282_4
        have HR282_4 := Aside0.mk hi282_4
        have HC282_4 := Aside0.mk hl282_4
        clear hi282_4 hl282_4
        replace p282 := eq_true p282
        replace q282 := eq_true q282
        go_wp2_with (first | ((with_reducible refine gate_dst (N := 8) rfl ?_); refine box_event ?hg (N := 8) ?hd (cs := #[.int .i64 0, .string (⟨#[]⟩ : ByteArray), .string (⟨#[]⟩ : ByteArray), .int .i64 0, .slice none 0 0]) (t := 37) ?hr ?_; (case hd => rfl); (case hg => rfl); (case hr => first | (go_simp; done) | (go_simp; rfl)); intro gb283 hg w56 hbox hb; have n0_ := Aside0.mk (Kd.R_below q5_ hb); have n1_ := Aside0.mk (below_step q0_ hb); have n2_ := Aside0.mk (hbox); have n3_ := Aside0.mk ((by rw [hg]; exact (below_size q0_) : w.heap.size ≤ gb283)); have n4_ := Aside0.mk ((by rw [hg]; exact (below_size q0_) : w.heap.size ≤ gb283)); clear HO_6; clear HB; have HO_6 := n0_; have HB := n1_; have BK283 := n2_; have GW283 := n3_; have GE283 := n4_; clear n0_ n1_ n2_ n3_ n4_; clear hb hbox hg; have hcz57_0 : w56.cell? ⟨gb283, 0, none⟩ = some (.int .i64 0) := (blk_cell BK283.out 0).trans rfl; have hcz57_1 : w56.cell? ⟨gb283, 1, none⟩ = some (.string (⟨#[]⟩ : ByteArray)) := (blk_cell BK283.out 1).trans rfl; have hcz57_2 : w56.cell? ⟨gb283, 2, none⟩ = some (.string (⟨#[]⟩ : ByteArray)) := (blk_cell BK283.out 2).trans rfl; have hcz57_3 : w56.cell? ⟨gb283, 3, none⟩ = some (.int .i64 0) := (blk_cell BK283.out 3).trans rfl; have hcz57_4 : w56.cell? ⟨gb283, 4, none⟩ = some (.slice none 0 0) := (blk_cell BK283.out 4).trans rfl; have hfz57_0 := blk_frozen BK283.out 0; have hfz57_1 := blk_frozen BK283.out 1; have hfz57_2 := blk_frozen BK283.out 2; have hfz57_3 := blk_frozen BK283.out 3; have hfz57_4 := blk_frozen BK283.out 4) | ((with_reducible refine gate_callee (f := 18) rfl ?_); refine goesL_ (some 25) rfl rfl Tryd.func18 q18_ rfl #[.agg #[.int .i64 ((rd_T37 l0 x7_2).f0), .string ((rd_T37 l0 x7_2).f1), .string ((rd_T37 l0 x7_2).f2), .int .i64 ((rd_T37 l0 x7_2).f3), .slice A282_4 ((rd_T37 l0 x7_2).f4).length c282_4]] rfl q1_ ?_; (with_reducible refine (cambiumref19_Good.calls k2 ((rd_T37 l0 x7_2).f0) ((rd_T37 l0 x7_2).f1) ((rd_T37 l0 x7_2).f2) ((rd_T37 l0 x7_2).f3) _ _ ((rd_T37 l0 x7_2).f4) false _ ?side1 ?side2 A13.out).mono ?_); (case side1 => exact Kd.C_below HR282_4.out q12_); (case side2 => exact HC282_4.out); rintro e w58 ⟨rfl, hb⟩; refine ⟨_, rfl, ?_⟩; have n0_ := Aside0.mk (Kd.R_below q59_ hb); have n1_ := Aside0.mk (blk_below (g := gb283) (o := .cells #[.int .i64 ((rd_T37 l0 x7_2).f0), .string ((rd_T37 l0 x7_2).f1), .string ((rd_T37 l0 x7_2).f2), .int .i64 ((rd_T37 l0 x7_2).f3), .slice A282_4 ((rd_T37 l0 x7_2).f4).length c282_4] 37 (0, 0)) q34_ hb); have n2_ := Aside0.mk (below_step q12_ hb); clear HO_6; clear BK283; clear HB; have HO_6 := n0_; have BK283 := n1_; have HB := n2_; clear n0_ n1_ n2_; (try clear hb); (try clear hb2); (try clear hk); (try clear hi)))
        go_ret2
        exact ⟨_, by first | rfl | (simp [errW_none, errW_some] <;> rfl) | (simp [*, errW_none, errW_some] <;> rfl), by first | exact Kd.R_nil _ _ _ _ _ | exact Kd.N_nil _ _ _ _ _ | exact Kd.V_nil _ _ _ _ _ | exact Kd.Q_nil _ _ _ _ _ | exact Kd.S_nil _ _ _ _ _, by repeat (first | (with_reducible first | exact HB.out | apply below_alloc | apply pw_below_drewN | apply below_drew1 | refine below_set ?_ GE283.out) | exact HB.out)⟩
      ·rw [if_neg c12] at H
       exact absurd H (by simp)
     ·rw [if_neg c11] at H
      have c11b0 : decide (x7_2 < (l0.length : Int)) = false := decide_eq_false c11
      clear c11
      by_cases c59 : x6_2.length < 140737488355328
      ·rw [if_pos c59] at H
       have LMc59 := Aside0.mk c59
       clear c59
       obtain ⟨y307, hy307⟩ : ∃ y_ : List Int, y_ = (x6_2 ++ [8]) := ⟨_, rfl⟩
       replace H : ((cambiumref02_Sum.f k2 y307).bind fun t310 => ((cambiumref19_low.f t310).bind fun t311 => (if y307.length + t311.length < 140737488355328 then ((some (y307 ++ t311 : List Int)).bind fun y314 => (if (y314.length : Int) > 65536 then (some (([] : List Int), 7)) else (some (y314, 0)))) else (none)))) = some (r1, r2) := by first | (rw [hy307]; with_reducible exact H) | (have H2_ := (Option.bind_some _ _).symm.trans H; rw [hy307]; with_reducible exact H2_) | (have H2_ := (Option.bind_some _ _).symm.trans H; with_reducible exact H2_) | with_reducible exact H | (rw [hy307]; exact H) | exact H
       have Ny307 := Aside0.mk hy307
       clear hy307
       replace H := Option.bind_eq_some_iff.mp H
       obtain ⟨t310, A600, H⟩ := H
       replace H : ((cambiumref19_low.f t310).bind fun t311 => (if y307.length + t311.length < 140737488355328 then ((some (y307 ++ t311 : List Int)).bind fun y314 => (if (y314.length : Int) > 65536 then (some (([] : List Int), 7)) else (some (y314, 0)))) else (none))) = some (r1, r2) := H
       have A60 := Aside0.mk A600
       clear A600
       replace H := Option.bind_eq_some_iff.mp H
       obtain ⟨t311, A610, H⟩ := H
       replace H : (if y307.length + t311.length < 140737488355328 then ((some (y307 ++ t311 : List Int)).bind fun y314 => (if (y314.length : Int) > 65536 then (some (([] : List Int), 7)) else (some (y314, 0)))) else (none)) = some (r1, r2) := H
       have A61 := Aside0.mk A610
       clear A610
       by_cases c62 : y307.length + t311.length < 140737488355328
       ·rw [if_pos c62] at H
        have LMc62 := Aside0.mk c62
        clear c62
        obtain ⟨y314, hy314⟩ : ∃ y_ : List Int, y_ = (y307 ++ t311) := ⟨_, rfl⟩
        replace H : (if (y314.length : Int) > 65536 then (some (([] : List Int), 7)) else (some (y314, 0))) = some (r1, r2) := by first | (rw [hy314]; with_reducible exact H) | (have H2_ := (Option.bind_some _ _).symm.trans H; rw [hy314]; with_reducible exact H2_) | (have H2_ := (Option.bind_some _ _).symm.trans H; with_reducible exact H2_) | with_reducible exact H | (rw [hy314]; exact H) | exact H
        have Ny314 := Aside0.mk hy314
        clear hy314
        by_cases c63 : (y314.length : Int) > 65536
        ·rw [if_pos c63] at H
         have c63b0 : decide (65536 < (y314.length : Int)) = true := decide_eq_true c63
         have c63b1 : decide (65536 < y314.length) = true := decide_eq_true (by omega)
         clear c63
         simp only [Option.some.injEq, Prod.mk.injEq] at H
         obtain ⟨rfl, rfl⟩ := H
         go_wp2_with (first | ((with_reducible refine gate_builtin (b := .append) (xs := #[.tmp 70, .tmp 71]) rfl ?_); at_builtin; refine Kd.R_append (Kd.int .u8) (w0 := w) w.heap.size rfl (.tmp 70) (.tmp 71) 35 5 (.int .u8 0) 1 rfl Tryd.underlying35 info5 rfl q81_ (by omega) u6 x6_2 8 [.int .u8 8] (fun _ => True) (fun _ => False) rfl rfl ?aP (fun _ hk => hk.elim) ?aF ?aO ?aB ?aS ?aL ?_; (case aP => exact rfl); (case aB => exact q0_); (case aF => exact (fun _ _ => trivial)); (case aO => exact q5_); (case aS => exact (below_size q0_)); (case aL => have := LMc59.out; omega); intro v308 w64 ho hb hg hat; rw [← Ny307.out] at ho; have n0_ := Aside0.mk (hb); have n1_ := Aside0.mk (ho); clear HB; clear HO_6; have HB := n0_; have HO309 := n1_; clear n0_ n1_; clear ho hb hg hat; obtain ⟨Ao65, co65, eo65⟩ := Kd.R_slice HO309.out; subst eo65) | ((with_reducible refine gate_callee (f := 37) rfl ?_); refine goesL_ (some 75) rfl rfl Tryd.func37 q18_ rfl #[.slice Ao65 y307.length co65] rfl q1_ ?_; (with_reducible refine (cambiumref02_Sum.calls k2 _ _ y307 t310 _ ?side1 ?side2 A60.out).mono ?_); (case side1 => repeat (first | exact (Kd.R_reads' HO309.out).2.2 | (with_reducible refine Kd.C_alloc ?_ _) | (with_reducible refine Kd.C_drewN ?_ _) | (with_reducible refine Kd.C_drew ?_))); (case side2 => exact (Kd.R_reads' HO309.out).2.1); rintro e w' ⟨rfl, ⟨nd, rfl⟩⟩; refine ⟨_, rfl, ?_⟩) | ((with_reducible refine gate_callee (f := 36) rfl ?_); refine goesL_ (some 76) rfl rfl Tryd.func36 q18_ rfl #[.int .u32 t310] rfl q1_ ?_; (with_reducible refine (cambiumref19_low.calls t310 t311 _ A61.out).mono ?_); rintro e w66 ⟨v312, rfl, ho0, hb⟩; refine ⟨_, rfl, ?_⟩; have n0_ := Aside0.mk (Kd.R_elder' (by (with_reducible repeat (first | apply Kd.R_alloc | apply Kd.R_drewN | apply Kd.R_drew)); exact HO309.out) (Kd.R_base ho0) hb); have n1_ := Aside0.mk (Kd.R_lower (Kd.R_new' ho0 (Kd.R_lt (by (with_reducible repeat (first | apply Kd.R_alloc | apply Kd.R_drewN | apply Kd.R_drew)); exact HO309.out))) (below_size q0_)); have n2_ := Aside0.mk (below_step q0_ hb); clear HO309; clear HB; have HO309 := n0_; have HO313 := n1_; have HB := n2_; clear n0_ n1_ n2_; (try clear hb); (try clear hb2); (try clear hk); (try clear hi); (try clear ho0); obtain ⟨Ao68, co68, eo68⟩ := Kd.R_slice HO313.out; subst eo68) | ((with_reducible refine gate_builtin (b := .append) (xs := #[.tmp 73, .tmp 76]) rfl ?_); at_builtin; refine Kd.R_append_rows (Kd.int .u8) (w0 := w) w.heap.size rfl (.tmp 73) (.tmp 76) 35 5 (.int .u8 0) 1 rfl Tryd.underlying35 info5 rfl q81_ (by omega) (.slice Ao65 y307.length co65) y307 t311 _ _ _ (fun k_ => some k_ ≠ (.slice Ao68 t311.length co68 : Value).ownBlock) (fun _ => False) rfl rfl ?aO ?aR (fun _ _ h => h) (fun _ h => h.elim) ?aF ?aB ?aS ?aL ?_; (case aR => repeat (first | exact (Kd.R_reads' HO313.out).2.2 | (with_reducible refine Kd.C_alloc ?_ _) | (with_reducible refine Kd.C_drewN ?_ _) | (with_reducible refine Kd.C_drew ?_))); (case aB => exact q0_); (case aF => exact (fun k_ hk => Kd.fresh' (Kd.R_lt (by (with_reducible repeat (first | apply Kd.R_alloc | apply Kd.R_drewN | apply Kd.R_drew)); exact HO313.out)) k_ hk)); (case aO => exact (by (with_reducible repeat (first | apply Kd.R_alloc | apply Kd.R_drewN | apply Kd.R_drew)); exact Kd.R_mono HO309.out (fun _ hk => hk.2))); (case aS => exact (below_size q0_)); (case aL => have := LMc62.out; omega); intro v315 w67 ho hb hg hat; rw [← Ny314.out] at ho; have n0_ := Aside0.mk (Kd.R_after (ok := (fun _ => True)) (by (with_reducible repeat (first | apply Kd.R_alloc | apply Kd.R_drewN | apply Kd.R_drew)); exact HO313.out) hg hat); have n1_ := Aside0.mk (hb); have n2_ := Aside0.mk (ho); clear HO313; clear HB; clear HO309; have HO313 := n0_; have HB := n1_; have HO316 := n2_; clear n0_ n1_ n2_; clear ho hb hg hat; obtain ⟨Ao69, co69, eo69⟩ := Kd.R_slice HO316.out; subst eo69))
         go_ret2
         exact ⟨_, by first | rfl | (simp [errW_none, errW_some] <;> rfl) | (simp [*, errW_none, errW_some] <;> rfl), by first | exact Kd.R_nil _ _ _ _ _ | exact Kd.N_nil _ _ _ _ _ | exact Kd.V_nil _ _ _ _ _ | exact Kd.Q_nil _ _ _ _ _ | exact Kd.S_nil _ _ _ _ _, by repeat (first | (with_reducible first | exact HB.out | apply below_alloc | apply pw_below_drewN | apply below_drew1) | exact HB.out)⟩
        ·rw [if_neg c63] at H
         have c63b0 : decide (65536 < (y314.length : Int)) = false := decide_eq_false c63
         have c63b1 : decide (65536 < y314.length) = false := decide_eq_false (by omega)
         clear c63
         simp only [Option.some.injEq, Prod.mk.injEq] at H
         obtain ⟨rfl, rfl⟩ := H
         go_wp2_with (first | ((with_reducible refine gate_builtin (b := .append) (xs := #[.tmp 70, .tmp 71]) rfl ?_); at_builtin; refine Kd.R_append (Kd.int .u8) (w0 := w) w.heap.size rfl (.tmp 70) (.tmp 71) 35 5 (.int .u8 0) 1 rfl Tryd.underlying35 info5 rfl q81_ (by omega) u6 x6_2 8 [.int .u8 8] (fun _ => True) (fun _ => False) rfl rfl ?aP (fun _ hk => hk.elim) ?aF ?aO ?aB ?aS ?aL ?_; (case aP => exact rfl); (case aB => exact q0_); (case aF => exact (fun _ _ => trivial)); (case aO => exact q5_); (case aS => exact (below_size q0_)); (case aL => have := LMc59.out; omega); intro v308 w70 ho hb hg hat; rw [← Ny307.out] at ho; have n0_ := Aside0.mk (hb); have n1_ := Aside0.mk (ho); clear HB; clear HO_6; have HB := n0_; have HO309 := n1_; clear n0_ n1_; clear ho hb hg hat; obtain ⟨Ao71, co71, eo71⟩ := Kd.R_slice HO309.out; subst eo71) | ((with_reducible refine gate_callee (f := 37) rfl ?_); refine goesL_ (some 75) rfl rfl Tryd.func37 q18_ rfl #[.slice Ao71 y307.length co71] rfl q1_ ?_; (with_reducible refine (cambiumref02_Sum.calls k2 _ _ y307 t310 _ ?side1 ?side2 A60.out).mono ?_); (case side1 => repeat (first | exact (Kd.R_reads' HO309.out).2.2 | (with_reducible refine Kd.C_alloc ?_ _) | (with_reducible refine Kd.C_drewN ?_ _) | (with_reducible refine Kd.C_drew ?_))); (case side2 => exact (Kd.R_reads' HO309.out).2.1); rintro e w' ⟨rfl, ⟨nd, rfl⟩⟩; refine ⟨_, rfl, ?_⟩) | ((with_reducible refine gate_callee (f := 36) rfl ?_); refine goesL_ (some 76) rfl rfl Tryd.func36 q18_ rfl #[.int .u32 t310] rfl q1_ ?_; (with_reducible refine (cambiumref19_low.calls t310 t311 _ A61.out).mono ?_); rintro e w72 ⟨v312, rfl, ho0, hb⟩; refine ⟨_, rfl, ?_⟩; have n0_ := Aside0.mk (Kd.R_elder' (by (with_reducible repeat (first | apply Kd.R_alloc | apply Kd.R_drewN | apply Kd.R_drew)); exact HO309.out) (Kd.R_base ho0) hb); have n1_ := Aside0.mk (Kd.R_lower (Kd.R_new' ho0 (Kd.R_lt (by (with_reducible repeat (first | apply Kd.R_alloc | apply Kd.R_drewN | apply Kd.R_drew)); exact HO309.out))) (below_size q0_)); have n2_ := Aside0.mk (below_step q0_ hb); clear HO309; clear HB; have HO309 := n0_; have HO313 := n1_; have HB := n2_; clear n0_ n1_ n2_; (try clear hb); (try clear hb2); (try clear hk); (try clear hi); (try clear ho0); obtain ⟨Ao74, co74, eo74⟩ := Kd.R_slice HO313.out; subst eo74) | ((with_reducible refine gate_builtin (b := .append) (xs := #[.tmp 73, .tmp 76]) rfl ?_); at_builtin; refine Kd.R_append_rows (Kd.int .u8) (w0 := w) w.heap.size rfl (.tmp 73) (.tmp 76) 35 5 (.int .u8 0) 1 rfl Tryd.underlying35 info5 rfl q81_ (by omega) (.slice Ao71 y307.length co71) y307 t311 _ _ _ (fun k_ => some k_ ≠ (.slice Ao74 t311.length co74 : Value).ownBlock) (fun _ => False) rfl rfl ?aO ?aR (fun _ _ h => h) (fun _ h => h.elim) ?aF ?aB ?aS ?aL ?_; (case aR => repeat (first | exact (Kd.R_reads' HO313.out).2.2 | (with_reducible refine Kd.C_alloc ?_ _) | (with_reducible refine Kd.C_drewN ?_ _) | (with_reducible refine Kd.C_drew ?_))); (case aB => exact q0_); (case aF => exact (fun k_ hk => Kd.fresh' (Kd.R_lt (by (with_reducible repeat (first | apply Kd.R_alloc | apply Kd.R_drewN | apply Kd.R_drew)); exact HO313.out)) k_ hk)); (case aO => exact (by (with_reducible repeat (first | apply Kd.R_alloc | apply Kd.R_drewN | apply Kd.R_drew)); exact Kd.R_mono HO309.out (fun _ hk => hk.2))); (case aS => exact (below_size q0_)); (case aL => have := LMc62.out; omega); intro v315 w73 ho hb hg hat; rw [← Ny314.out] at ho; have n0_ := Aside0.mk (Kd.R_after (ok := (fun _ => True)) (by (with_reducible repeat (first | apply Kd.R_alloc | apply Kd.R_drewN | apply Kd.R_drew)); exact HO313.out) hg hat); have n1_ := Aside0.mk (hb); have n2_ := Aside0.mk (ho); clear HO313; clear HB; clear HO309; have HO313 := n0_; have HB := n1_; have HO316 := n2_; clear n0_ n1_ n2_; clear ho hb hg hat; obtain ⟨Ao75, co75, eo75⟩ := Kd.R_slice HO316.out; subst eo75))
         go_ret2
         exact ⟨_, by first | rfl | (simp [errW_none, errW_some] <;> rfl) | (simp [*, errW_none, errW_some] <;> rfl), by (with_reducible repeat (first | apply Kd.R_alloc | apply Kd.R_drewN | apply Kd.R_drew)); exact Kd.R_mono HO316.out (fun _ hk => trivial), by repeat (first | (with_reducible first | exact HB.out | apply below_alloc | apply pw_below_drewN | apply below_drew1) | exact HB.out)⟩
       ·rw [if_neg c62] at H
        exact absurd H (by simp)
      ·rw [if_neg c59] at H
       exact absurd H (by simp)
end Go.Proofs.YtgklipfeheohkaaDoor.P
