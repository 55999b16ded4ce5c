import Derived.Test.YtgklipfeheohkaaDoorPx0
import Derived.Test.YtgklipfeheohkaaDoorPx7
import Derived.Test.YtgklipfeheohkaaDoorPx11
import Derived.Test.YtgklipfeheohkaaDoorPx12
namespace Go.Proofs.YtgklipfeheohkaaDoor.P
open Go.RowKit Go.Proofs.YtgklipfeheohkaaDoorW.PrintWords Go.Proofs.YtgklipfeheohkaaDoorW.PrintLast Go.Proofs.YtgklipfeheohkaaDoorW.PrintMore
attribute [local go_sem] max2_int min2_int max_two min_two max_three min_three max_four min_four   -- for this text's walks alone
set_option linter.unusedVariables false
set_option linter.unusedSimpArgs false
theorem q2_ {P : Prop} (h : P := by repeat (first | (with_reducible first | exact HB.out | apply below_alloc | apply pw_below_drewN | apply below_drew1 | refine below_set ?_ GE430.out) | exact HB.out)) : P := h
theorem q10_ {P : Prop} (h : P := by (with_reducible repeat (first | apply Kd.S_alloc | apply Kd.S_drewN | apply Kd.S_drew)); exact HO_6.out) : P := h
theorem q13_ {P : Prop} (h : P := by (with_reducible repeat (first | refine blk_drewN ?_ _ | refine blk_drew ?_ | refine blk_alloc ?_ _)); exact BK430.out) : P := h
theorem q16_ {P : Prop} (h : P := by (with_reducible repeat (first | apply Kd.V_alloc | apply Kd.V_drewN | apply Kd.V_drew)); exact (Kd.V_mono (Kd.V_far (p := ⟨gb430, 4, none⟩) (Kd.V_far (p := ⟨gb430, 3, none⟩) (Kd.V_far (p := ⟨gb430, 2, none⟩) (Kd.V_far (p := ⟨gb430, 1, none⟩) (Kd.V_far (p := ⟨gb430, 0, none⟩) (Kd.V_mono HO428.out (fun k_ hk => (⟨hk, hk.2⟩ : _ ∧ k_ ≠ gb430))) (fun _ hk => hk.2) (.int .i64 t425)) (fun _ hk => hk.2) (.string (⟨#[]⟩ : ByteArray))) (fun _ hk => hk.2) (.string (⟨#[]⟩ : ByteArray))) (fun _ hk => hk.2) (.int .i64 0)) (fun _ hk => hk.2) (.slice none 0 0)) (fun _ h_ => h_.1))) : P := h
theorem q19_ {P : Prop} (h : P := by (with_reducible repeat (first | refine blk_drewN ?_ _ | refine blk_drew ?_ | refine blk_alloc ?_ _)); refine blk_put (cs := #[.int .i64 t425, .string (⟨#[]⟩ : ByteArray), .string (⟨#[]⟩ : ByteArray), .int .i64 0, .slice none 0 0]) ?_ 4 _ rfl; (with_reducible repeat (first | refine blk_drewN ?_ _ | refine blk_drew ?_ | refine blk_alloc ?_ _)); refine blk_put (cs := #[.int .i64 t425, .string (⟨#[]⟩ : ByteArray), .string (⟨#[]⟩ : ByteArray), .int .i64 0, .slice none 0 0]) ?_ 3 _ rfl; (with_reducible repeat (first | refine blk_drewN ?_ _ | refine blk_drew ?_ | refine blk_alloc ?_ _)); refine blk_put (cs := #[.int .i64 t425, .string (⟨#[]⟩ : ByteArray), .string (⟨#[]⟩ : ByteArray), .int .i64 0, .slice none 0 0]) ?_ 2 _ rfl; (with_reducible repeat (first | refine blk_drewN ?_ _ | refine blk_drew ?_ | refine blk_alloc ?_ _)); refine blk_put (cs := #[.int .i64 t425, .string (⟨#[]⟩ : ByteArray), .string (⟨#[]⟩ : ByteArray), .int .i64 0, .slice none 0 0]) ?_ 1 _ rfl; (with_reducible repeat (first | refine blk_drewN ?_ _ | refine blk_drew ?_ | refine blk_alloc ?_ _)); refine blk_put (cs := #[.int .i64 0, .string (⟨#[]⟩ : ByteArray), .string (⟨#[]⟩ : ByteArray), .int .i64 0, .slice none 0 0]) ?_ 0 _ rfl; (with_reducible repeat (first | refine blk_drewN ?_ _ | refine blk_drew ?_ | refine blk_alloc ?_ _)); exact BK430.out) : P := h
theorem q36_ {P : Prop} (h : P := by (with_reducible repeat (first | apply Kd.V_alloc | apply Kd.V_drewN | apply Kd.V_drew)); exact HO_5.out) : P := h
theorem q38_ {P : Prop} (h : P := by (with_reducible repeat (first | apply Kd.V_alloc | apply Kd.V_drewN | apply Kd.V_drew)); exact (Kd.V_mono (Kd.V_far (p := ⟨gb430, 4, none⟩) (Kd.V_far (p := ⟨gb430, 3, none⟩) (Kd.V_far (p := ⟨gb430, 2, none⟩) (Kd.V_far (p := ⟨gb430, 1, none⟩) (Kd.V_far (p := ⟨gb430, 0, none⟩) (Kd.V_mono HO_0.out (fun k_ hk => (⟨hk, hk.2⟩ : _ ∧ k_ ≠ gb430))) (fun _ hk => hk.2) (.int .i64 t425)) (fun _ hk => hk.2) (.string (⟨#[]⟩ : ByteArray))) (fun _ hk => hk.2) (.string (⟨#[]⟩ : ByteArray))) (fun _ hk => hk.2) (.int .i64 0)) (fun _ hk => hk.2) (.slice none 0 0)) (fun _ h_ => h_.1))) : P := h
theorem q39_ {P : Prop} (h : P := by (with_reducible repeat (first | apply Kd.V_alloc | apply Kd.V_drewN | apply Kd.V_drew)); exact (Kd.V_mono (Kd.V_far (p := ⟨gb430, 4, none⟩) (Kd.V_far (p := ⟨gb430, 3, none⟩) (Kd.V_far (p := ⟨gb430, 2, none⟩) (Kd.V_far (p := ⟨gb430, 1, none⟩) (Kd.V_far (p := ⟨gb430, 0, none⟩) (Kd.V_mono HO_5.out (fun k_ hk => (⟨hk, hk.2⟩ : _ ∧ k_ ≠ gb430))) (fun _ hk => hk.2) (.int .i64 t425)) (fun _ hk => hk.2) (.string (⟨#[]⟩ : ByteArray))) (fun _ hk => hk.2) (.string (⟨#[]⟩ : ByteArray))) (fun _ hk => hk.2) (.int .i64 0)) (fun _ hk => hk.2) (.slice none 0 0)) (fun _ h_ => h_.1))) : P := h
theorem q40_ {P : Prop} (h : P := by (with_reducible repeat (first | apply Kd.S_alloc | apply Kd.S_drewN | apply Kd.S_drew)); exact (Kd.S_mono (Kd.S_far (p := ⟨gb430, 4, none⟩) (Kd.S_far (p := ⟨gb430, 3, none⟩) (Kd.S_far (p := ⟨gb430, 2, none⟩) (Kd.S_far (p := ⟨gb430, 1, none⟩) (Kd.S_far (p := ⟨gb430, 0, none⟩) (Kd.S_mono HO_6.out (fun k_ hk => (⟨hk, hk.2⟩ : _ ∧ k_ ≠ gb430))) (fun _ hk => hk.2) (.int .i64 t425)) (fun _ hk => hk.2) (.string (⟨#[]⟩ : ByteArray))) (fun _ hk => hk.2) (.string (⟨#[]⟩ : ByteArray))) (fun _ hk => hk.2) (.int .i64 0)) (fun _ hk => hk.2) (.slice none 0 0)) (fun _ h_ => h_.1))) : P := h
theorem q48_ {P : Prop} (h : P := by rw [hw]; exact (by (with_reducible repeat (first | apply Kd.V_alloc | apply Kd.V_drewN | apply Kd.V_drew)); exact Kd.V_mono (Kd.V_far (p := ⟨gb430, 4, none⟩) (Kd.V_mono HO_0.out (fun k_ hk => (⟨hk, hk.1.1.2.2⟩ : _ ∧ k_ ≠ gb430))) (fun _ hk => hk.2) (.slice Ao43 t446.length co43)) (fun _ hk => ⟨hk.1.1.1.1, ⟨hk.1.1.1.2.1, ⟨hk.1.1.2, ⟨hk.1.2, hk.1.1.1.2.2⟩⟩⟩⟩))) : P := h
theorem q49_ {P : Prop} (h : P := by rw [hw]; exact (by (with_reducible repeat (first | apply Kd.V_alloc | apply Kd.V_drewN | apply Kd.V_drew)); exact Kd.V_mono (Kd.V_far (p := ⟨gb430, 4, none⟩) (Kd.V_mono HO_8.out (fun k_ hk => (⟨hk, hk.1.1.2.2⟩ : _ ∧ k_ ≠ gb430))) (fun _ hk => hk.2) (.slice Ao43 t446.length co43)) (fun _ hk => ⟨hk.1.1.1.1, ⟨hk.1.1.1.2.1, ⟨hk.1.1.2, ⟨hk.1.2, hk.1.1.1.2.2⟩⟩⟩⟩))) : P := h
theorem q52_ {P : Prop} (h : P := by rw [hw]; exact (by (with_reducible repeat (first | refine blk_drewN ?_ _ | refine blk_drew ?_ | refine blk_alloc ?_ _)); refine blk_put (cs := #[.int .i64 t425, .string t431, .string x431002_19, .int .i64 x431003_28, .slice none 0 0]) ?_ 4 _ rfl; (with_reducible repeat (first | refine blk_drewN ?_ _ | refine blk_drew ?_ | refine blk_alloc ?_ _)); exact BK430.out)) : P := h
theorem q54_ {P : Prop} (h : P := by rw [hw]; exact (by (with_reducible repeat (first | apply Kd.S_alloc | apply Kd.S_drewN | apply Kd.S_drew)); exact Kd.S_mono (Kd.S_far (p := ⟨gb430, 4, none⟩) (Kd.S_mono HO_6.out (fun k_ hk => (⟨hk, hk.1.1.2⟩ : _ ∧ k_ ≠ gb430))) (fun _ hk => hk.2) (.slice Ao43 t446.length co43)) (fun _ hk => ⟨hk.1.1.1.1, ⟨hk.1.1.2, ⟨hk.1.2, hk.1.1.1.2⟩⟩⟩))) : P := h
theorem q57_ {P : Prop} (h : P := by (with_reducible repeat (first | apply Kd.V_alloc | apply Kd.V_drewN | apply Kd.V_drew)); exact HO_8.out) : P := h
theorem q65_ {P : Prop} (h : P := by rw [hw]; exact (by (with_reducible repeat (first | apply Kd.R_alloc | apply Kd.R_drewN | apply Kd.R_drew)); exact Kd.R_mono (Kd.R_far (p := ⟨gb430, 4, none⟩) (Kd.R_types HO450.out BK430.out (by decide)) (fun _ hk => hk.2) (.slice Ao43 t446.length co43)) (fun _ hk => ⟨hk.1.1, hk.1.2⟩))) : P := h
theorem q66_ {P : Prop} (h : P := by rw [hw]; exact (by (with_reducible repeat (first | apply Kd.R_alloc | apply Kd.R_drewN | apply Kd.R_drew)); exact Kd.R_mono (Kd.R_far (p := ⟨gb430, 4, none⟩) (Kd.R_types HO452.out BK430.out (by decide)) (fun _ hk => hk.2) (.slice Ao43 t446.length co43)) (fun _ hk => ⟨hk.1.1, hk.1.2⟩))) : P := h
theorem q68_ {P : Prop} (h : P := by (with_reducible repeat (first | apply Kd.R_alloc | apply Kd.R_drewN | apply Kd.R_drew)); exact HO452.out) : P := h
theorem q76_ {P : Prop} (h : P := by (with_reducible repeat (first | apply Kd.V_alloc | apply Kd.V_drewN | apply Kd.V_drew)); exact Kd.V_mono HO_0.out (fun _ hk => ⟨⟨hk.1, ⟨hk.2.2.1, ⟨hk.2.2.2.1, hk.2.2.2.2⟩⟩⟩, hk.2.1⟩)) : P := h
theorem q77_ {P : Prop} (h : P := by (with_reducible repeat (first | apply Kd.V_alloc | apply Kd.V_drewN | apply Kd.V_drew)); exact Kd.V_mono HO_8.out (fun _ hk => ⟨⟨hk.1, ⟨hk.2.2.1, ⟨hk.2.2.2.1, hk.2.2.2.2⟩⟩⟩, hk.2.1⟩)) : P := h
theorem q80_ {P : Prop} (h : P := by (with_reducible repeat (first | apply Kd.S_alloc | apply Kd.S_drewN | apply Kd.S_drew)); exact Kd.S_mono HO_6.out (fun k_ hk => ⟨⟨hk.1, ⟨hk.2.2.1, hk.2.2.2⟩⟩, fun e_ => hk.2.1 e_⟩)) : P := h
mutual
def cambiumref19_Take.j0 : Nat → List Int → Bool → Option ((List (S37)) × Bool × Int)
 | 0, _, _ => none
 | k + 1, x0, x28 => if x28 = true then (some (([] : List (S37)), false, 26)) else (if 3 ≤ (wrap64 ((x0.length : Int) - 5)) then (if (wrap64 ((x0.length : Int) - 5)) ≤ (x0.length : Int) then (cambiumref19_Take.l0 k x0 ((x0.take ((wrap64 ((x0.length : Int) - 5)) : Int).toNat).drop 3) ([] : List (S37))) else (none)) else (none))
def cambiumref19_Take.l0 : Nat → List Int → List Int → List (S37) → Option ((List (S37)) × Bool × Int)
 | 0, _, _, _ => none
 | k + 1, x0, x5, x6 => if (x5.length : Int) > 0 then ((cambiumref01_Take.f k x5 1).bind fun bt425 => ((cambiumref01_TakeText.f k bt425.2.1).bind fun bt431 => (if bt431.2.2 = 0 then (cambiumref19_Take.j2 k x0 x6 bt425.1 bt431.2.1 bt431.2.2 (bt425.1 == 3) bt425.1 bt431.1 (⟨#[]⟩ : ByteArray) 0) else (cambiumref19_Take.j2 k x0 x6 bt425.1 bt431.2.1 bt431.2.2 false bt425.1 bt431.1 (⟨#[]⟩ : ByteArray) 0)))) else (if 2 < (x0.length : Int) then ((cambiumref19_Put.f k x6 ((rd x0 2) == 1)).bind fun bt420 => (if bt420.2 = 0 then (if (strOfNums bt420.1).toList = (strOfNums x0).toList then (some (x6, ((rd x0 2) == 1), 0)) else (some (([] : List (S37)), false, 26))) else (some (([] : List (S37)), false, 26)))) else (none))
def cambiumref19_Take.j2 : Nat → List Int → List (S37) → Int → List Int → Int → Bool → Int → ByteArray → ByteArray → Int → Option ((List (S37)) × Bool × Int)
 | 0, _, _, _, _, _, _, _, _, _, _ => none
 | k + 1, x0, x6, x7, x8, x12, x58, x431000, x431001, x431002, x431003 => if x58 = true then ((cambiumref01_TakeText.f k x8).bind fun bt436 => (cambiumref19_Take.j3 k x0 x6 x7 bt436.2.1 bt436.2.2 x431000 x431001 bt436.1 x431003)) else (cambiumref19_Take.j3 k x0 x6 x7 x8 x12 x431000 x431001 x431002 x431003)
def cambiumref19_Take.j3 : Nat → List Int → List (S37) → Int → List Int → Int → Int → ByteArray → ByteArray → Int → Option ((List (S37)) × Bool × Int)
 | 0, _, _, _, _, _, _, _, _, _ => none
 | k + 1, x0, x6, x7, x8, x12, x431000, x431001, x431002, x431003 => if x12 = 0 then (if x7 = 4 then (cambiumref19_Take.j4 k x0 x6 x7 x8 x12 true x431000 x431001 x431002 x431003) else (cambiumref19_Take.j4 k x0 x6 x7 x8 x12 (x7 == 5) x431000 x431001 x431002 x431003)) else (cambiumref19_Take.j4 k x0 x6 x7 x8 x12 false x431000 x431001 x431002 x431003)
def cambiumref19_Take.j4 : Nat → List Int → List (S37) → Int → List Int → Int → Bool → Int → ByteArray → ByteArray → Int → Option ((List (S37)) × Bool × Int)
 | 0, _, _, _, _, _, _, _, _, _, _ => none
 | k + 1, x0, x6, x7, x8, x12, x76, x431000, x431001, x431002, x431003 => if x76 = true then ((cambiumref01_Take.f k x8 4).bind fun bt441 => (cambiumref19_Take.j5 k x0 x6 x7 bt441.2.1 bt441.2.2 x431000 x431001 x431002 bt441.1)) else (cambiumref19_Take.j5 k x0 x6 x7 x8 x12 x431000 x431001 x431002 x431003)
def cambiumref19_Take.j5 : Nat → List Int → List (S37) → Int → List Int → Int → Int → ByteArray → ByteArray → Int → Option ((List (S37)) × Bool × Int)
 | 0, _, _, _, _, _, _, _, _, _ => none
 | k + 1, x0, x6, x7, x8, x12, x431000, x431001, x431002, x431003 => if x12 = 0 then (cambiumref19_Take.j6 k x0 x6 x8 x12 (x7 == 4) x431000 x431001 x431002 x431003) else (cambiumref19_Take.j6 k x0 x6 x8 x12 false x431000 x431001 x431002 x431003)
def cambiumref19_Take.j6 : Nat → List Int → List (S37) → List Int → Int → Bool → Int → ByteArray → ByteArray → Int → Option ((List (S37)) × Bool × Int)
 | 0, _, _, _, _, _, _, _, _, _ => none
 | k + 1, x0, x6, x8, x12, x92, x431000, x431001, x431002, x431003 => if x92 = true then ((cambiumref01_TakeBytes.f k x8).bind fun bt446 => (if bt446.2.2 = 0 then (if x6.length < 1954687338268 then (cambiumref19_Take.l0 k x0 bt446.2.1 (x6 ++ [(⟨x431000, x431001, x431002, x431003, bt446.1⟩ : S37)])) else (none)) else (some (([] : List (S37)), false, 26)))) else (if x12 = 0 then (if x6.length < 1954687338268 then (cambiumref19_Take.l0 k x0 x8 (x6 ++ [(⟨x431000, x431001, x431002, x431003, ([] : List Int)⟩ : S37)])) else (none)) else (some (([] : List (S37)), false, 26)))
end
def cambiumref19_Take.f (k : Nat) (l0 : List Int) : Option ((List (S37)) × Bool × Int) := if (l0.length : Int) < 8 then (cambiumref19_Take.j0 k l0 true) else (cambiumref19_Take.j0 k l0 (decide ((l0.length : Int) > 65536)))
set_option maxHeartbeats 8000000 in
set_option maxRecDepth 100000 in
theorem cambiumref19_Take.calls (k : Nat) (P0_ : Nat → Prop) (A0 : Option Addr) (c0 : Nat) (l0 : List Int) (r1 : List (S37)) (r2 : Bool) (r3 : Int) (w : World) (hs0 : Kd.V (Kd.int .u8) 5 w w.heap.size (fun k_ => P0_ k_) (.slice A0 l0.length c0) l0) (h : cambiumref19_Take.f k l0 = some (r1, r2, r3)) :
  Calls Tryd.prog 22 #[.slice A0 l0.length c0] w fun e w' => ∃ v0_ : Value, e = .returned (.tuple #[v0_, .bool r2, .int .i64 r3]) ∧ Kd.S k37 37 w' w.heap.size (fun k_ => (w.heap.size ≤ k_)) v0_ r1 ∧ Below w.heap.size w w' := by
 have hu37 := Tryd.underlying37
 have HO0 := Aside0.mk (show Kd.V (Kd.int .u8) 5 w w.heap.size (fun k_ => (P0_ k_ ∨ w.heap.size ≤ k_)) (.slice A0 l0.length c0) l0 from Kd.V_mono hs0 (fun k_ hk => .inl hk))
 have HB := Aside0.mk (Below.refl w.heap.size w)
 have H : (if (l0.length : Int) < 8 then (cambiumref19_Take.j0 k l0 true) else (cambiumref19_Take.j0 k l0 (decide ((l0.length : Int) > 65536)))) = some (r1, r2, r3) := h
 clear h
 have HC2 := Aside0.mk H
 clear H
 go_enter Tryd.func22, Tryd.ntmps22
 go_upto_region 1 with (fail)
 repeat (go_quiet (fail); go_upto_region 1 with (fail))
 go_cut [28] (fun v28 wc => ∃ (kq : Nat) (x28_1 : Bool), v28 = .bool x28_1 ∧ Aside0 (cambiumref19_Take.j0 kq l0 x28_1 = some (r1, r2, r3)) ∧ Aside0 (kq ≤ k) ∧ Aside0 (Kd.V (Kd.int .u8) 5 wc w.heap.size (fun k_ => (P0_ k_ ∨ w.heap.size ≤ k_)) (.slice A0 l0.length c0) l0) ∧ Aside0 (Below w.heap.size w wc))
 case first =>
  have H := HC2.out
  clear HC2
  by_cases c3 : (l0.length : Int) < 8
  ·rw [if_pos c3] at H
   have c3b0 : decide ((l0.length : Int) < 8) = true := decide_eq_true c3
   have c3b1 : decide (l0.length < 8) = true := decide_eq_true (by omega)
   clear c3
   (first | rw [c3b0] | (simp only [i64_w, i32_w]; rw [c3b0]) | skip)
   have H' := Aside0.mk H
   clear H
   go_wp2
   repeat (go_quiet (fail); try go_wp2)
   go_meet
   case rel => exact ⟨_, (true), q3_, H', ⟨q51_⟩, ⟨by (with_reducible repeat (first | apply Kd.V_alloc | apply Kd.V_drewN | apply Kd.V_drew)); exact HO0.out⟩, ⟨q0_⟩⟩
  ·rw [if_neg c3] at H
   have c3b0 : decide ((l0.length : Int) < 8) = false := decide_eq_false c3
   have c3b1 : decide (l0.length < 8) = false := decide_eq_false (by omega)
   clear c3
   (first | rw [c3b0] | (simp only [i64_w, i32_w]; rw [c3b0]) | skip)
   have H' := Aside0.mk H
   clear H
   go_wp2
   repeat (go_quiet (fail); try go_wp2)
   go_meet
   case rel => exact ⟨_, (decide ((l0.length : Int) > 65536)), q3_, H', ⟨q51_⟩, ⟨by (with_reducible repeat (first | apply Kd.V_alloc | apply Kd.V_drewN | apply Kd.V_drew)); exact HO0.out⟩, ⟨q0_⟩⟩
 case rest =>
  clear HC2
  try clear c2
  try clear p2
  try clear c3
  try clear c3b0
  try clear c3b1
  obtain ⟨kq, x28_1, rfl, HA, HJ1, HO_0, HB⟩ := hcut
  cases kq with
  | zero => exact absurd (show none = some _ from HA.out) (by simp)
  | succ kj1 =>
   have H := HA.out
   clear HA
   simp only [cambiumref19_Take.j0] at H
   by_cases c4 : x28_1 = true
   ·subst c4
    have H1 : (some (([] : List (S37)), false, 26)) = some (r1, r2, r3) := by rw [if_pos rfl] at H; exact H
    clear H
    have H := H1
    clear H1
    simp only [Option.some.injEq, Prod.mk.injEq] at H
    obtain ⟨rfl, rfl, rfl⟩ := H
    go_wp2
    repeat (go_quiet (fail); try go_wp2)
    go_ret3
    exact ⟨_, by first | rfl | (simp [errW_none, errW_some] <;> rfl) | (simp [*, errW_none, errW_some] <;> rfl), by first | exact Kd.S_nil _ _ _ _ _ | exact Kd.N_nil _ _ _ _ _ | exact Kd.V_nil _ _ _ _ _ | exact Kd.Q_nil _ _ _ _ _ | exact Kd.R_nil _ _ _ _ _, by repeat (first | (with_reducible first | exact HB.out | apply below_alloc | apply pw_below_drewN | apply below_drew1) | exact HB.out)⟩
   ·replace c4 := Bool.eq_false_iff.mpr c4
    subst c4
    have H1 : (if 3 ≤ (wrap64 ((l0.length : Int) - 5)) then (if (wrap64 ((l0.length : Int) - 5)) ≤ (l0.length : Int) then (cambiumref19_Take.l0 kj1 l0 ((l0.take ((wrap64 ((l0.length : Int) - 5)) : Int).toNat).drop 3) ([] : List (S37))) else (none)) else (none)) = some (r1, r2, r3) := by rw [if_neg (show ¬ (false = true) by decide)] at H; exact H
    clear H
    have H := H1
    clear H1
    by_cases c5 : 3 ≤ (wrap64 ((l0.length : Int) - 5))
    ·rw [if_pos c5] at H
     have c5b0 := eq_true c5
     have c5b1 : decide (3 ≤ (wrap64 ((l0.length : Int) - 5))) = true := decide_eq_true c5
     clear c5
     by_cases c6 : (wrap64 ((l0.length : Int) - 5)) ≤ (l0.length : Int)
     ·rw [if_pos c6] at H
      have c6b0 := eq_true c6
      have c6b1 : decide ((wrap64 ((l0.length : Int) - 5)) ≤ (l0.length : Int)) = true := decide_eq_true c6
      clear c6
      obtain ⟨y414, hy414⟩ : ∃ y_ : List Int, y_ = ((l0.take ((wrap64 ((l0.length : Int) - 5)) : Int).toNat).drop 3) := ⟨_, rfl⟩
      replace H : (cambiumref19_Take.l0 kj1 l0 y414 ([] : List (S37))) = some (r1, r2, r3) := by first | (rw [hy414]; with_reducible exact H) | (have H2_ := (Option.bind_some _ _).symm.trans H; rw [hy414]; with_reducible exact H2_) | (have H2_ := (Option.bind_some _ _).symm.trans H; with_reducible exact H2_) | with_reducible exact H | (rw [hy414]; exact H) | exact H
      have Ny414 := Aside0.mk hy414
      clear hy414
      have H' := Aside0.mk H
      clear H
      have q7 : ((wrap64 ((l0.length : Int) - 5)) : Int) ≤ ((l0.length : Int) : Int) := of_decide_eq_true q7_
      obtain ⟨i07, hi07, _, hsz7, _⟩ := info_parts info5
      have hroom7 : l0.length ≤ c0 := (Kd.V_reads' HO_0.out).2.1
      have hC7 : Kd.F (Kd.int .u8) _ _ A0 l0.length l0 := (Kd.V_at (base := w.heap.size) HO_0.out).2.2
      have ql7 : (3 : Int) ≤ ((wrap64 ((l0.length : Int) - 5)) : Int) := of_decide_eq_true q7_
      have hcut7 := cut_mid (P := Tryd.prog) 35 5 .i64 .i64 Tryd.underlying35 hi07 1 hsz7 A0 l0.length c0 3 (wrap64 ((l0.length : Int) - 5)) (by omega) ql7 q7 hroom7
      have hr7 := Kd.F_mid (lo := (3 : Int).toNat) (hi := ((wrap64 ((l0.length : Int) - 5)) : Int).toNat) (c := c0) hC7 (by omega) (by omega) hroom7
      obtain ⟨A7, hA7⟩ : ∃ A1, A1 = (if c0 = (3 : Int).toNat then A0 else (A0 : Option Addr).map (·.add ((3 : Int).toNat * 1))) := ⟨_, rfl⟩
      obtain ⟨c7, hc7⟩ : ∃ c1, c1 = c0 - (3 : Int).toNat := ⟨_, rfl⟩
      have hy7 : y414.length = ((wrap64 ((l0.length : Int) - 5)) : Int).toNat - (3 : Int).toNat := (by rw [Ny414.out, List.length_drop, List.length_take] <;> omega)
      rw [show ((l0).take ((wrap64 ((l0.length : Int) - 5)) : Int).toNat).drop (3 : Int).toNat = y414 from Ny414.out.symm] at hr7
      replace hr7 : Kd.F (Kd.int .u8) _ _ A7 y414.length y414 := (by rw [hA7]; exact hr7)
      rw [← hy7, ← hA7, ← hc7] at hcut7
      have HO418 := Aside0.mk (show Kd.V (Kd.int .u8) 5 _ w.heap.size _ (.slice A7 y414.length c7) y414 from Kd.V_mk (by rw [hy7, hc7]; exact Nat.sub_le_sub_right (Nat.le_trans (by omega) hroom7) _) hr7)
      have HC418 := Aside0.mk (show y414.length ≤ c7 from by rw [hy7, hc7]; exact Nat.sub_le_sub_right (Nat.le_trans (by omega) hroom7) _)
      clear hr7 hC7 hroom7 hi07 hsz7 hc7
      have KY7 := Aside0.mk hy7
      have KA7 := Aside0.mk hA7
      clear hy7 hA7
      replace q7 := eq_true q7
      go_wp2
      repeat (go_quiet (fail); try go_wp2)
      go_loopg [5, 6] kj1 (fun kq v5 v6 w' => ∃ (x5_2 : List Int) (x6_2 : List (S37)), Aside0 (cambiumref19_Take.l0 kq l0 x5_2 x6_2 = some (r1, r2, r3)) ∧ Aside0 (kq ≤ kj1) ∧ Aside0 (Kd.V (Kd.int .u8) 5 w' w.heap.size (fun k_ => (P0_ k_ ∨ w.heap.size ≤ k_) ∧ some k_ ≠ (v6 : Value).ownBlock) (.slice A0 l0.length c0) l0) ∧ Aside0 (Kd.V (Kd.int .u8) 5 w' w.heap.size (fun k_ => (P0_ k_ ∨ w.heap.size ≤ k_) ∧ some k_ ≠ (v6 : Value).ownBlock) v5 x5_2) ∧ Aside0 (Kd.S k37 37 w' w.heap.size (fun k_ => (w.heap.size ≤ k_)) v6 x6_2) ∧ Aside0 (Below w.heap.size w w'))
      case atStart => exact ⟨(y414), (([] : List (S37))), H', ⟨Nat.le_refl _⟩, ⟨by (with_reducible repeat (first | apply Kd.V_alloc | apply Kd.V_drewN | apply Kd.V_drew)); exact Kd.V_mono HO_0.out (fun _ hk => ⟨hk, (by simp [Value.ownBlock])⟩)⟩, ⟨by (with_reducible repeat (first | apply Kd.V_alloc | apply Kd.V_drewN | apply Kd.V_drew)); exact Kd.V_mono HO418.out (fun _ hk => ⟨hk, (by simp [Value.ownBlock])⟩)⟩, ⟨by first | exact Kd.S_nil _ _ _ _ _ | exact Kd.N_nil _ _ _ _ _ | exact Kd.V_nil _ _ _ _ _ | exact Kd.Q_nil _ _ _ _ _ | exact Kd.R_nil _ _ _ _ _⟩, ⟨q0_⟩⟩
      case round =>
       clear H'
       try clear c1
       try clear c2
       try clear p2
       try clear c3
       try clear c3b0
       try clear c3b1
       try clear c4
       try clear c5
       try clear c5b0
       try clear c5b1
       try clear c6
       try clear c6b0
       try clear c6b1
       try clear p6
       try clear c7
       try clear q7
       try clear p2
       try clear q7
       obtain ⟨x5_2, x6_2, HA, HK2, HO_0, HO_5, HO_6, HB⟩ := hrel
       cases gk with
       | zero => exact absurd (show none = some _ from HA.out) (by simp)
       | succ k2 =>
        have H := HA.out
        clear HA
        simp only [cambiumref19_Take.l0] at H
        by_cases c8 : (x5_2.length : Int) > 0
        ·rw [if_pos c8] at H
         have c8b0 : decide (0 < (x5_2.length : Int)) = true := decide_eq_true c8
         have c8b1 : decide (0 < x5_2.length) = true := decide_eq_true (by omega)
         clear c8
         replace H := Option.bind_eq_some_iff.mp H
         obtain ⟨⟨t425, t426, t429⟩, A90, H⟩ := H
         replace H : ((cambiumref01_TakeText.f k2 t426).bind fun bt431 => (if bt431.2.2 = 0 then (cambiumref19_Take.j2 k2 l0 x6_2 t425 bt431.2.1 bt431.2.2 (t425 == 3) t425 bt431.1 (⟨#[]⟩ : ByteArray) 0) else (cambiumref19_Take.j2 k2 l0 x6_2 t425 bt431.2.1 bt431.2.2 false t425 bt431.1 (⟨#[]⟩ : ByteArray) 0))) = some (r1, r2, r3) := H
         have A9 := Aside0.mk A90
         clear A90
         replace H := Option.bind_eq_some_iff.mp H
         obtain ⟨⟨t431, t432, t433⟩, A100, H⟩ := H
         replace H : (if t433 = 0 then (cambiumref19_Take.j2 k2 l0 x6_2 t425 t432 t433 (t425 == 3) t425 t431 (⟨#[]⟩ : ByteArray) 0) else (cambiumref19_Take.j2 k2 l0 x6_2 t425 t432 t433 false t425 t431 (⟨#[]⟩ : ByteArray) 0)) = some (r1, r2, r3) := H
         have A10 := Aside0.mk A100
         clear A100
         have HC11 := Aside0.mk H
         clear H
         obtain ⟨Ao12, co12, eo12⟩ := Kd.V_slice HO_5.out
         subst eo12
         go_upto_region 10 with (first | (go_at_call 39; (with_reducible refine (cambiumref01_Take.calls k2 _ _ x5_2 1 t425 t426 t429 _ ?side1 ?side2 A9.out).mono ?_); (case side1 => repeat (first | exact (Kd.V_reads' HO_5.out).2.2 | (with_reducible refine Kd.C_alloc ?_ _) | (with_reducible refine Kd.C_drewN ?_ _) | (with_reducible refine Kd.C_drew ?_))); (case side2 => exact (Kd.V_reads' HO_5.out).2.1); rintro e w13 ⟨v427, rfl, ho0, hb⟩; have n0_ := Aside0.mk (Kd.V_below q14_ hb); have n1_ := Aside0.mk (Kd.V_below q36_ hb); have n2_ := Aside0.mk (Kd.S_below q10_ hb); have n3_ := Aside0.mk (Kd.V_lower (Kd.V_mono (ok' := fun k_ => (P0_ k_ ∨ w.heap.size ≤ k_) ∧ some k_ ≠ (u6 : Value).ownBlock) ho0 (fun k_ hk_ => ⟨(.inr (Nat.le_trans (below_size q0_) hk_)), (Kd.fresh' (Kd.S_lt q10_) k_ hk_)⟩)) (below_size q0_)); have n4_ := Aside0.mk (below_step q0_ hb); clear HO_0; clear HO_5; clear HO_6; clear HB; have HO_0 := n0_; have HO_5 := n1_; have HO_6 := n2_; have HO428 := n3_; have HB := n4_; clear n0_ n1_ n2_ n3_ n4_; (try clear hb); (try clear hb2); (try clear hk); (try clear hi); (try clear ho0)) | ((with_reducible refine gate_dst (N := 10) rfl ?_); (try (refine gate_guard (by rfl) ?_; dsimp only)); refine box_event ?hg (N := 10) ?hd (cs := #[.int .i64 0, .string (⟨#[]⟩ : ByteArray), .string (⟨#[]⟩ : ByteArray), .int .i64 0, .slice none 0 0]) (t := 37) ?hr ?_; (case hd => rfl); (case hg => rfl); (case hr => first | (go_simp; done) | (go_simp; rfl)); intro gb430 hg w14 hbox hb; have n0_ := Aside0.mk (Kd.V_below (Kd.V_elderB q14_ gb430 (Nat.le_of_eq hg.symm)) hb); have n1_ := Aside0.mk (Kd.V_below (Kd.V_elderB q36_ gb430 (Nat.le_of_eq hg.symm)) hb); have n2_ := Aside0.mk (Kd.S_below (Kd.S_elderB q10_ gb430 (Nat.le_of_eq hg.symm)) hb); have n3_ := Aside0.mk (Kd.V_below (Kd.V_elderB (by (with_reducible repeat (first | apply Kd.V_alloc | apply Kd.V_drewN | apply Kd.V_drew)); exact HO428.out) gb430 (Nat.le_of_eq hg.symm)) hb); have n4_ := Aside0.mk (below_step q0_ hb); have n5_ := Aside0.mk (hbox); have n6_ := Aside0.mk ((by rw [hg]; exact (below_size q0_) : w.heap.size ≤ gb430)); have n7_ := Aside0.mk ((by rw [hg]; exact (below_size q0_) : w.heap.size ≤ gb430)); clear HO_0; clear HO_5; clear HO_6; clear HO428; clear HB; have HO_0 := n0_; have HO_5 := n1_; have HO_6 := n2_; have HO428 := n3_; have HB := n4_; have BK430 := n5_; have GW430 := n6_; have GE430 := n7_; clear n0_ n1_ n2_ n3_ n4_ n5_ n6_ n7_; clear hb hbox hg; have hcz15_0 : w14.cell? ⟨gb430, 0, none⟩ = some (.int .i64 0) := (blk_cell BK430.out 0).trans rfl; have hcz15_1 : w14.cell? ⟨gb430, 1, none⟩ = some (.string (⟨#[]⟩ : ByteArray)) := (blk_cell BK430.out 1).trans rfl; have hcz15_2 : w14.cell? ⟨gb430, 2, none⟩ = some (.string (⟨#[]⟩ : ByteArray)) := (blk_cell BK430.out 2).trans rfl; have hcz15_3 : w14.cell? ⟨gb430, 3, none⟩ = some (.int .i64 0) := (blk_cell BK430.out 3).trans rfl; have hcz15_4 : w14.cell? ⟨gb430, 4, none⟩ = some (.slice none 0 0) := (blk_cell BK430.out 4).trans rfl; have hfz15_0 := blk_frozen BK430.out 0; have hfz15_1 := blk_frozen BK430.out 1; have hfz15_2 := blk_frozen BK430.out 2; have hfz15_3 := blk_frozen BK430.out 3; have hfz15_4 := blk_frozen BK430.out 4; obtain ⟨Ao16, co16, eo16⟩ := Kd.V_slice HO428.out; subst eo16) | (go_at_call 40; (with_reducible refine (cambiumref01_TakeText.calls k2 _ _ t426 t431 t432 t433 _ ?side1 ?side2 A10.out).mono ?_); (case side1 => refine (Kd.V_reads' (e := 5) (base := w.heap.size) (ok := fun k_ => (((P0_ k_ ∨ w.heap.size ≤ k_) ∧ some k_ ≠ (u6 : Value).ownBlock) ∧ k_ ≠ gb430)) (n := t426.length) (c := co16) ?_).2.2; exact q16_); (case side2 => exact (Kd.V_reads' HO428.out).2.1); rintro e w17 ⟨v434, rfl, ho0, hb⟩; have n0_ := Aside0.mk (Kd.V_elder' q38_ (Kd.R_base ho0) hb); have n1_ := Aside0.mk (Kd.V_elder' q39_ (Kd.R_base ho0) hb); have n2_ := Aside0.mk (Kd.S_elder' q40_ (Kd.R_base ho0) hb); have n3_ := Aside0.mk (Kd.V_elder' q16_ (Kd.R_base ho0) hb); have n4_ := Aside0.mk (Kd.R_lower (Kd.R_newM (M := fun k_ => (w.heap.size ≤ k_)) ho0 (below_size q2_) (fun k_ h_ => h_)) (below_size q2_)); have n5_ := Aside0.mk (blk_below (g := gb430) (o := .cells #[.int .i64 t425, .string (⟨#[]⟩ : ByteArray), .string (⟨#[]⟩ : ByteArray), .int .i64 0, .slice none 0 0] 37 (0, 0)) q19_ hb); have n6_ := Aside0.mk (below_step q2_ hb); clear HO_0; clear HO_5; clear HO_6; clear HO428; clear BK430; clear HB; have HO_0 := n0_; have HO_5 := n1_; have HO_6 := n2_; have HO428 := n3_; have HO435 := n4_; have BK430 := n5_; have HB := n6_; clear n0_ n1_ n2_ n3_ n4_ n5_ n6_; (try clear hb); (try clear hb2); (try clear hk); (try clear hi); (try clear ho0); have hcz18_0 : w17.cell? ⟨gb430, 0, none⟩ = some (.int .i64 t425) := (blk_cell BK430.out 0).trans rfl; have hcz18_1 : w17.cell? ⟨gb430, 1, none⟩ = some (.string (⟨#[]⟩ : ByteArray)) := (blk_cell BK430.out 1).trans rfl; have hcz18_2 : w17.cell? ⟨gb430, 2, none⟩ = some (.string (⟨#[]⟩ : ByteArray)) := (blk_cell BK430.out 2).trans rfl; have hcz18_3 : w17.cell? ⟨gb430, 3, none⟩ = some (.int .i64 0) := (blk_cell BK430.out 3).trans rfl; have hcz18_4 : w17.cell? ⟨gb430, 4, none⟩ = some (.slice none 0 0) := (blk_cell BK430.out 4).trans rfl; have hfz18_0 := blk_frozen BK430.out 0; have hfz18_1 := blk_frozen BK430.out 1; have hfz18_2 := blk_frozen BK430.out 2; have hfz18_3 := blk_frozen BK430.out 3; have hfz18_4 := blk_frozen BK430.out 4))
         repeat (go_quiet (first | (go_at_call 39; (with_reducible refine (cambiumref01_Take.calls k2 _ _ x5_2 1 t425 t426 t429 _ ?side1 ?side2 A9.out).mono ?_); (case side1 => repeat (first | exact (Kd.V_reads' HO_5.out).2.2 | (with_reducible refine Kd.C_alloc ?_ _) | (with_reducible refine Kd.C_drewN ?_ _) | (with_reducible refine Kd.C_drew ?_))); (case side2 => exact (Kd.V_reads' HO_5.out).2.1); rintro e w13 ⟨v427, rfl, ho0, hb⟩; have n0_ := Aside0.mk (Kd.V_below q14_ hb); have n1_ := Aside0.mk (Kd.V_below q36_ hb); have n2_ := Aside0.mk (Kd.S_below q10_ hb); have n3_ := Aside0.mk (Kd.V_lower (Kd.V_mono (ok' := fun k_ => (P0_ k_ ∨ w.heap.size ≤ k_) ∧ some k_ ≠ (u6 : Value).ownBlock) ho0 (fun k_ hk_ => ⟨(.inr (Nat.le_trans (below_size q0_) hk_)), (Kd.fresh' (Kd.S_lt q10_) k_ hk_)⟩)) (below_size q0_)); have n4_ := Aside0.mk (below_step q0_ hb); clear HO_0; clear HO_5; clear HO_6; clear HB; have HO_0 := n0_; have HO_5 := n1_; have HO_6 := n2_; have HO428 := n3_; have HB := n4_; clear n0_ n1_ n2_ n3_ n4_; (try clear hb); (try clear hb2); (try clear hk); (try clear hi); (try clear ho0)) | ((with_reducible refine gate_dst (N := 10) rfl ?_); (try (refine gate_guard (by rfl) ?_; dsimp only)); refine box_event ?hg (N := 10) ?hd (cs := #[.int .i64 0, .string (⟨#[]⟩ : ByteArray), .string (⟨#[]⟩ : ByteArray), .int .i64 0, .slice none 0 0]) (t := 37) ?hr ?_; (case hd => rfl); (case hg => rfl); (case hr => first | (go_simp; done) | (go_simp; rfl)); intro gb430 hg w14 hbox hb; have n0_ := Aside0.mk (Kd.V_below (Kd.V_elderB q14_ gb430 (Nat.le_of_eq hg.symm)) hb); have n1_ := Aside0.mk (Kd.V_below (Kd.V_elderB q36_ gb430 (Nat.le_of_eq hg.symm)) hb); have n2_ := Aside0.mk (Kd.S_below (Kd.S_elderB q10_ gb430 (Nat.le_of_eq hg.symm)) hb); have n3_ := Aside0.mk (Kd.V_below (Kd.V_elderB (by (with_reducible repeat (first | apply Kd.V_alloc | apply Kd.V_drewN | apply Kd.V_drew)); exact HO428.out) gb430 (Nat.le_of_eq hg.symm)) hb); have n4_ := Aside0.mk (below_step q0_ hb); have n5_ := Aside0.mk (hbox); have n6_ := Aside0.mk ((by rw [hg]; exact (below_size q0_) : w.heap.size ≤ gb430)); have n7_ := Aside0.mk ((by rw [hg]; exact (below_size q0_) : w.heap.size ≤ gb430)); clear HO_0; clear HO_5; clear HO_6; clear HO428; clear HB; have HO_0 := n0_; have HO_5 := n1_; have HO_6 := n2_; have HO428 := n3_; have HB := n4_; have BK430 := n5_; have GW430 := n6_; have GE430 := n7_; clear n0_ n1_ n2_ n3_ n4_ n5_ n6_ n7_; clear hb hbox hg; have hcz15_0 : w14.cell? ⟨gb430, 0, none⟩ = some (.int .i64 0) := (blk_cell BK430.out 0).trans rfl; have hcz15_1 : w14.cell? ⟨gb430, 1, none⟩ = some (.string (⟨#[]⟩ : ByteArray)) := (blk_cell BK430.out 1).trans rfl; have hcz15_2 : w14.cell? ⟨gb430, 2, none⟩ = some (.string (⟨#[]⟩ : ByteArray)) := (blk_cell BK430.out 2).trans rfl; have hcz15_3 : w14.cell? ⟨gb430, 3, none⟩ = some (.int .i64 0) := (blk_cell BK430.out 3).trans rfl; have hcz15_4 : w14.cell? ⟨gb430, 4, none⟩ = some (.slice none 0 0) := (blk_cell BK430.out 4).trans rfl; have hfz15_0 := blk_frozen BK430.out 0; have hfz15_1 := blk_frozen BK430.out 1; have hfz15_2 := blk_frozen BK430.out 2; have hfz15_3 := blk_frozen BK430.out 3; have hfz15_4 := blk_frozen BK430.out 4; obtain ⟨Ao16, co16, eo16⟩ := Kd.V_slice HO428.out; subst eo16) | (go_at_call 40; (with_reducible refine (cambiumref01_TakeText.calls k2 _ _ t426 t431 t432 t433 _ ?side1 ?side2 A10.out).mono ?_); (case side1 => refine (Kd.V_reads' (e := 5) (base := w.heap.size) (ok := fun k_ => (((P0_ k_ ∨ w.heap.size ≤ k_) ∧ some k_ ≠ (u6 : Value).ownBlock) ∧ k_ ≠ gb430)) (n := t426.length) (c := co16) ?_).2.2; exact q16_); (case side2 => exact (Kd.V_reads' HO428.out).2.1); rintro e w17 ⟨v434, rfl, ho0, hb⟩; have n0_ := Aside0.mk (Kd.V_elder' q38_ (Kd.R_base ho0) hb); have n1_ := Aside0.mk (Kd.V_elder' q39_ (Kd.R_base ho0) hb); have n2_ := Aside0.mk (Kd.S_elder' q40_ (Kd.R_base ho0) hb); have n3_ := Aside0.mk (Kd.V_elder' q16_ (Kd.R_base ho0) hb); have n4_ := Aside0.mk (Kd.R_lower (Kd.R_newM (M := fun k_ => (w.heap.size ≤ k_)) ho0 (below_size q2_) (fun k_ h_ => h_)) (below_size q2_)); have n5_ := Aside0.mk (blk_below (g := gb430) (o := .cells #[.int .i64 t425, .string (⟨#[]⟩ : ByteArray), .string (⟨#[]⟩ : ByteArray), .int .i64 0, .slice none 0 0] 37 (0, 0)) q19_ hb); have n6_ := Aside0.mk (below_step q2_ hb); clear HO_0; clear HO_5; clear HO_6; clear HO428; clear BK430; clear HB; have HO_0 := n0_; have HO_5 := n1_; have HO_6 := n2_; have HO428 := n3_; have HO435 := n4_; have BK430 := n5_; have HB := n6_; clear n0_ n1_ n2_ n3_ n4_ n5_ n6_; (try clear hb); (try clear hb2); (try clear hk); (try clear hi); (try clear ho0); have hcz18_0 : w17.cell? ⟨gb430, 0, none⟩ = some (.int .i64 t425) := (blk_cell BK430.out 0).trans rfl; have hcz18_1 : w17.cell? ⟨gb430, 1, none⟩ = some (.string (⟨#[]⟩ : ByteArray)) := (blk_cell BK430.out 1).trans rfl; have hcz18_2 : w17.cell? ⟨gb430, 2, none⟩ = some (.string (⟨#[]⟩ : ByteArray)) := (blk_cell BK430.out 2).trans rfl; have hcz18_3 : w17.cell? ⟨gb430, 3, none⟩ = some (.int .i64 0) := (blk_cell BK430.out 3).trans rfl; have hcz18_4 : w17.cell? ⟨gb430, 4, none⟩ = some (.slice none 0 0) := (blk_cell BK430.out 4).trans rfl; have hfz18_0 := blk_frozen BK430.out 0; have hfz18_1 := blk_frozen BK430.out 1; have hfz18_2 := blk_frozen BK430.out 2; have hfz18_3 := blk_frozen BK430.out 3; have hfz18_4 := blk_frozen BK430.out 4)); go_upto_region 10 with (first | (go_at_call 39; (with_reducible refine (cambiumref01_Take.calls k2 _ _ x5_2 1 t425 t426 t429 _ ?side1 ?side2 A9.out).mono ?_); (case side1 => repeat (first | exact (Kd.V_reads' HO_5.out).2.2 | (with_reducible refine Kd.C_alloc ?_ _) | (with_reducible refine Kd.C_drewN ?_ _) | (with_reducible refine Kd.C_drew ?_))); (case side2 => exact (Kd.V_reads' HO_5.out).2.1); rintro e w13 ⟨v427, rfl, ho0, hb⟩; have n0_ := Aside0.mk (Kd.V_below q14_ hb); have n1_ := Aside0.mk (Kd.V_below q36_ hb); have n2_ := Aside0.mk (Kd.S_below q10_ hb); have n3_ := Aside0.mk (Kd.V_lower (Kd.V_mono (ok' := fun k_ => (P0_ k_ ∨ w.heap.size ≤ k_) ∧ some k_ ≠ (u6 : Value).ownBlock) ho0 (fun k_ hk_ => ⟨(.inr (Nat.le_trans (below_size q0_) hk_)), (Kd.fresh' (Kd.S_lt q10_) k_ hk_)⟩)) (below_size q0_)); have n4_ := Aside0.mk (below_step q0_ hb); clear HO_0; clear HO_5; clear HO_6; clear HB; have HO_0 := n0_; have HO_5 := n1_; have HO_6 := n2_; have HO428 := n3_; have HB := n4_; clear n0_ n1_ n2_ n3_ n4_; (try clear hb); (try clear hb2); (try clear hk); (try clear hi); (try clear ho0)) | ((with_reducible refine gate_dst (N := 10) rfl ?_); (try (refine gate_guard (by rfl) ?_; dsimp only)); refine box_event ?hg (N := 10) ?hd (cs := #[.int .i64 0, .string (⟨#[]⟩ : ByteArray), .string (⟨#[]⟩ : ByteArray), .int .i64 0, .slice none 0 0]) (t := 37) ?hr ?_; (case hd => rfl); (case hg => rfl); (case hr => first | (go_simp; done) | (go_simp; rfl)); intro gb430 hg w14 hbox hb; have n0_ := Aside0.mk (Kd.V_below (Kd.V_elderB q14_ gb430 (Nat.le_of_eq hg.symm)) hb); have n1_ := Aside0.mk (Kd.V_below (Kd.V_elderB q36_ gb430 (Nat.le_of_eq hg.symm)) hb); have n2_ := Aside0.mk (Kd.S_below (Kd.S_elderB q10_ gb430 (Nat.le_of_eq hg.symm)) hb); have n3_ := Aside0.mk (Kd.V_below (Kd.V_elderB (by (with_reducible repeat (first | apply Kd.V_alloc | apply Kd.V_drewN | apply Kd.V_drew)); exact HO428.out) gb430 (Nat.le_of_eq hg.symm)) hb); have n4_ := Aside0.mk (below_step q0_ hb); have n5_ := Aside0.mk (hbox); have n6_ := Aside0.mk ((by rw [hg]; exact (below_size q0_) : w.heap.size ≤ gb430)); have n7_ := Aside0.mk ((by rw [hg]; exact (below_size q0_) : w.heap.size ≤ gb430)); clear HO_0; clear HO_5; clear HO_6; clear HO428; clear HB; have HO_0 := n0_; have HO_5 := n1_; have HO_6 := n2_; have HO428 := n3_; have HB := n4_; have BK430 := n5_; have GW430 := n6_; have GE430 := n7_; clear n0_ n1_ n2_ n3_ n4_ n5_ n6_ n7_; clear hb hbox hg; have hcz15_0 : w14.cell? ⟨gb430, 0, none⟩ = some (.int .i64 0) := (blk_cell BK430.out 0).trans rfl; have hcz15_1 : w14.cell? ⟨gb430, 1, none⟩ = some (.string (⟨#[]⟩ : ByteArray)) := (blk_cell BK430.out 1).trans rfl; have hcz15_2 : w14.cell? ⟨gb430, 2, none⟩ = some (.string (⟨#[]⟩ : ByteArray)) := (blk_cell BK430.out 2).trans rfl; have hcz15_3 : w14.cell? ⟨gb430, 3, none⟩ = some (.int .i64 0) := (blk_cell BK430.out 3).trans rfl; have hcz15_4 : w14.cell? ⟨gb430, 4, none⟩ = some (.slice none 0 0) := (blk_cell BK430.out 4).trans rfl; have hfz15_0 := blk_frozen BK430.out 0; have hfz15_1 := blk_frozen BK430.out 1; have hfz15_2 := blk_frozen BK430.out 2; have hfz15_3 := blk_frozen BK430.out 3; have hfz15_4 := blk_frozen BK430.out 4; obtain ⟨Ao16, co16, eo16⟩ := Kd.V_slice HO428.out; subst eo16) | (go_at_call 40; (with_reducible refine (cambiumref01_TakeText.calls k2 _ _ t426 t431 t432 t433 _ ?side1 ?side2 A10.out).mono ?_); (case side1 => refine (Kd.V_reads' (e := 5) (base := w.heap.size) (ok := fun k_ => (((P0_ k_ ∨ w.heap.size ≤ k_) ∧ some k_ ≠ (u6 : Value).ownBlock) ∧ k_ ≠ gb430)) (n := t426.length) (c := co16) ?_).2.2; exact q16_); (case side2 => exact (Kd.V_reads' HO428.out).2.1); rintro e w17 ⟨v434, rfl, ho0, hb⟩; have n0_ := Aside0.mk (Kd.V_elder' q38_ (Kd.R_base ho0) hb); have n1_ := Aside0.mk (Kd.V_elder' q39_ (Kd.R_base ho0) hb); have n2_ := Aside0.mk (Kd.S_elder' q40_ (Kd.R_base ho0) hb); have n3_ := Aside0.mk (Kd.V_elder' q16_ (Kd.R_base ho0) hb); have n4_ := Aside0.mk (Kd.R_lower (Kd.R_newM (M := fun k_ => (w.heap.size ≤ k_)) ho0 (below_size q2_) (fun k_ h_ => h_)) (below_size q2_)); have n5_ := Aside0.mk (blk_below (g := gb430) (o := .cells #[.int .i64 t425, .string (⟨#[]⟩ : ByteArray), .string (⟨#[]⟩ : ByteArray), .int .i64 0, .slice none 0 0] 37 (0, 0)) q19_ hb); have n6_ := Aside0.mk (below_step q2_ hb); clear HO_0; clear HO_5; clear HO_6; clear HO428; clear BK430; clear HB; have HO_0 := n0_; have HO_5 := n1_; have HO_6 := n2_; have HO428 := n3_; have HO435 := n4_; have BK430 := n5_; have HB := n6_; clear n0_ n1_ n2_ n3_ n4_ n5_ n6_; (try clear hb); (try clear hb2); (try clear hk); (try clear hi); (try clear ho0); have hcz18_0 : w17.cell? ⟨gb430, 0, none⟩ = some (.int .i64 t425) := (blk_cell BK430.out 0).trans rfl; have hcz18_1 : w17.cell? ⟨gb430, 1, none⟩ = some (.string (⟨#[]⟩ : ByteArray)) := (blk_cell BK430.out 1).trans rfl; have hcz18_2 : w17.cell? ⟨gb430, 2, none⟩ = some (.string (⟨#[]⟩ : ByteArray)) := (blk_cell BK430.out 2).trans rfl; have hcz18_3 : w17.cell? ⟨gb430, 3, none⟩ = some (.int .i64 0) := (blk_cell BK430.out 3).trans rfl; have hcz18_4 : w17.cell? ⟨gb430, 4, none⟩ = some (.slice none 0 0) := (blk_cell BK430.out 4).trans rfl; have hfz18_0 := blk_frozen BK430.out 0; have hfz18_1 := blk_frozen BK430.out 1; have hfz18_2 := blk_frozen BK430.out 2; have hfz18_3 := blk_frozen BK430.out 3; have hfz18_4 := blk_frozen BK430.out 4)))
         (try simp only [Act.put, List.setIfInBounds_toArray, List.set_cons_zero, List.set_cons_succ])
         go_cut [58] (fun v58 wc => ∃ (kq : Nat) (x58_10 : Bool), v58 = .bool x58_10 ∧ Aside0 (cambiumref19_Take.j2 kq l0 x6_2 t425 t432 t433 x58_10 t425 t431 (⟨#[]⟩ : ByteArray) 0 = some (r1, r2, r3)) ∧ Aside0 (kq ≤ k2) ∧ Aside0 (Kd.V (Kd.int .u8) 5 wc w.heap.size (fun k_ => (P0_ k_ ∨ w.heap.size ≤ k_) ∧ some k_ ≠ (u6 : Value).ownBlock ∧ some k_ ≠ (v434 : Value).ownBlock ∧ k_ ≠ gb430) (.slice A0 l0.length c0) l0) ∧ Aside0 (Kd.S k37 37 wc w.heap.size (fun k_ => (w.heap.size ≤ k_) ∧ some k_ ≠ (v434 : Value).ownBlock ∧ k_ ≠ gb430) u6 x6_2) ∧ Aside0 (Kd.R (Kd.int .u8) 5 wc w.heap.size (fun k_ => (w.heap.size ≤ k_)) v434 t432) ∧ Aside0 (wc.heap[gb430]? = some (.cells #[.int .i64 t425, .string t431, .string (⟨#[]⟩ : ByteArray), .int .i64 0, (.slice none 0 0)] 37 (0, 0))) ∧ Aside0 (Below w.heap.size w wc))
         case first =>
          have H := HC11.out
          clear HC11
          by_cases c19 : t433 = 0
          ·rw [if_pos c19] at H
           have c19b0 : (t433 == 0) = true := beq_iff_eq.mpr c19
           have c19b1 : (t433 != 0) = false := bne_eq_false_iff_eq.mpr c19
           clear c19
           (first | rw [c19b0] | (simp only [i64_w, i32_w]; rw [c19b0]) | skip)
           have H' := Aside0.mk H
           clear H
           go_wp2
           repeat (go_quiet (fail); try go_wp2)
           go_meet
           case rel => exact ⟨_, ((t425 == 3)), q3_, H', ⟨by have := HJ1.out; have := HK2.out; first | omega | exact Nat.le_refl _⟩, ⟨by (with_reducible repeat (first | apply Kd.V_alloc | apply Kd.V_drewN | apply Kd.V_drew)); exact Kd.V_mono (Kd.V_far (p := ⟨gb430, 1, none⟩) (Kd.V_mono HO_0.out (fun k_ hk => (⟨hk, hk.1.2⟩ : _ ∧ k_ ≠ gb430))) (fun _ hk => hk.2) (.string t431)) (fun _ hk => ⟨hk.1.1.1.1, ⟨hk.1.1.1.2, ⟨hk.1.2, hk.1.1.2⟩⟩⟩)⟩, ⟨by (with_reducible repeat (first | apply Kd.S_alloc | apply Kd.S_drewN | apply Kd.S_drew)); exact Kd.S_mono (Kd.S_far (p := ⟨gb430, 1, none⟩) (Kd.S_mono HO_6.out (fun k_ hk => (⟨hk, hk.1.2⟩ : _ ∧ k_ ≠ gb430))) (fun _ hk => hk.2) (.string t431)) (fun _ hk => ⟨hk.1.1.1, ⟨hk.1.2, hk.1.1.2⟩⟩)⟩, ⟨by (with_reducible repeat (first | apply Kd.R_alloc | apply Kd.R_drewN | apply Kd.R_drew)); exact Kd.R_mono (Kd.R_far (p := ⟨gb430, 1, none⟩) (Kd.R_types HO435.out BK430.out q81_) (fun _ hk => hk.2) (.string t431)) (fun _ hk => hk.1.1)⟩, ⟨by (with_reducible repeat (first | refine blk_drewN ?_ _ | refine blk_drew ?_ | refine blk_alloc ?_ _)); refine blk_put (cs := #[.int .i64 t425, .string (⟨#[]⟩ : ByteArray), .string (⟨#[]⟩ : ByteArray), .int .i64 0, .slice none 0 0]) ?_ 1 _ rfl; (with_reducible repeat (first | refine blk_drewN ?_ _ | refine blk_drew ?_ | refine blk_alloc ?_ _)); exact BK430.out⟩, ⟨q2_⟩⟩
          ·rw [if_neg c19] at H
           have c19b0 : (t433 == 0) = false := beq_eq_false_iff_ne.mpr c19
           have c19b1 : (t433 != 0) = true := bne_iff_ne.mpr c19
           (first | rw [c19b0] | (simp only [i64_w, i32_w]; rw [c19b0]) | skip)
           have H' := Aside0.mk H
           clear H
           go_wp2
           repeat (go_quiet (fail); try go_wp2)
           go_meet
           case rel => exact ⟨_, (false), q3_, H', ⟨by have := HJ1.out; have := HK2.out; first | omega | exact Nat.le_refl _⟩, ⟨by (with_reducible repeat (first | apply Kd.V_alloc | apply Kd.V_drewN | apply Kd.V_drew)); exact Kd.V_mono (Kd.V_far (p := ⟨gb430, 1, none⟩) (Kd.V_mono HO_0.out (fun k_ hk => (⟨hk, hk.1.2⟩ : _ ∧ k_ ≠ gb430))) (fun _ hk => hk.2) (.string t431)) (fun _ hk => ⟨hk.1.1.1.1, ⟨hk.1.1.1.2, ⟨hk.1.2, hk.1.1.2⟩⟩⟩)⟩, ⟨by (with_reducible repeat (first | apply Kd.S_alloc | apply Kd.S_drewN | apply Kd.S_drew)); exact Kd.S_mono (Kd.S_far (p := ⟨gb430, 1, none⟩) (Kd.S_mono HO_6.out (fun k_ hk => (⟨hk, hk.1.2⟩ : _ ∧ k_ ≠ gb430))) (fun _ hk => hk.2) (.string t431)) (fun _ hk => ⟨hk.1.1.1, ⟨hk.1.2, hk.1.1.2⟩⟩)⟩, ⟨by (with_reducible repeat (first | apply Kd.R_alloc | apply Kd.R_drewN | apply Kd.R_drew)); exact Kd.R_mono (Kd.R_far (p := ⟨gb430, 1, none⟩) (Kd.R_types HO435.out BK430.out q81_) (fun _ hk => hk.2) (.string t431)) (fun _ hk => hk.1.1)⟩, ⟨by (with_reducible repeat (first | refine blk_drewN ?_ _ | refine blk_drew ?_ | refine blk_alloc ?_ _)); refine blk_put (cs := #[.int .i64 t425, .string (⟨#[]⟩ : ByteArray), .string (⟨#[]⟩ : ByteArray), .int .i64 0, .slice none 0 0]) ?_ 1 _ rfl; (with_reducible repeat (first | refine blk_drewN ?_ _ | refine blk_drew ?_ | refine blk_alloc ?_ _)); exact BK430.out⟩, ⟨q2_⟩⟩
         case rest =>
          clear HC11
          try clear c1
          try clear c2
          try clear p2
          try clear c3
          try clear c3b0
          try clear c3b1
          try clear c4
          try clear c5
          try clear c5b0
          try clear c5b1
          try clear c6
          try clear c6b0
          try clear c6b1
          try clear p6
          try clear c7
          try clear q7
          try clear c8
          try clear c8b0
          try clear c8b1
          try clear c19
          try clear c19b0
          try clear c19b1
          try clear hcz15_0
          try clear hcz15_1
          try clear hcz15_2
          try clear hcz15_3
          try clear hcz15_4
          try clear hcz18_0
          try clear hcz18_1
          try clear hcz18_2
          try clear hcz18_3
          try clear hcz18_4
          try clear hfz15_0
          try clear hfz15_1
          try clear hfz15_2
          try clear hfz15_3
          try clear hfz15_4
          try clear hfz18_0
          try clear hfz18_1
          try clear hfz18_2
          try clear hfz18_3
          try clear hfz18_4
          try clear p2
          try clear p6
          try clear q7
          obtain ⟨kq, x58_10, rfl, HA, HJ10, HO_0, HO_6, HO_8, BK430, HB⟩ := hcut
          cases kq with
          | zero => exact absurd (show none = some _ from HA.out) (by simp)
          | succ kj10 =>
           have H := HA.out
           clear HA
           simp only [cambiumref19_Take.j2] at H
           have HC20 := Aside0.mk H
           clear H
           go_upto_if 58 with (fail)
           repeat (go_quiet (fail); go_upto_if 58 with (fail))
           go_cut [8, 12] (fun v8 v12 wc => ∃ (kq : Nat) (x8_19 : List Int) (x12_19 : Int) (x431002_19 : ByteArray), v12 = .int .i64 x12_19 ∧ Aside0 (cambiumref19_Take.j3 kq l0 x6_2 t425 x8_19 x12_19 t425 t431 x431002_19 0 = some (r1, r2, r3)) ∧ Aside0 (kq ≤ kj10) ∧ Aside0 (Kd.V (Kd.int .u8) 5 wc w.heap.size (fun k_ => (P0_ k_ ∨ w.heap.size ≤ k_) ∧ some k_ ≠ (u6 : Value).ownBlock ∧ some k_ ≠ (v8 : Value).ownBlock ∧ k_ ≠ gb430) (.slice A0 l0.length c0) l0) ∧ Aside0 (Kd.S k37 37 wc w.heap.size (fun k_ => (w.heap.size ≤ k_) ∧ some k_ ≠ (v8 : Value).ownBlock ∧ k_ ≠ gb430) u6 x6_2) ∧ Aside0 (Kd.R (Kd.int .u8) 5 wc w.heap.size (fun k_ => (w.heap.size ≤ k_)) v8 x8_19) ∧ Aside0 (wc.heap[gb430]? = some (.cells #[.int .i64 t425, .string t431, .string x431002_19, .int .i64 0, (.slice none 0 0)] 37 (0, 0))) ∧ Aside0 (Below w.heap.size w wc))
           case first =>
            have H := HC20.out
            clear HC20
            by_cases c21 : x58_10 = true
            ·subst c21
             have H1 : ((cambiumref01_TakeText.f kj10 t432).bind fun bt436 => (cambiumref19_Take.j3 kj10 l0 x6_2 t425 bt436.2.1 bt436.2.2 t425 t431 bt436.1 0)) = some (r1, r2, r3) := by rw [if_pos rfl] at H; exact H
             clear H
             have H := H1
             clear H1
             replace H := Option.bind_eq_some_iff.mp H
             obtain ⟨⟨t436, t437, t438⟩, A220, H⟩ := H
             replace H : (cambiumref19_Take.j3 kj10 l0 x6_2 t425 t437 t438 t425 t431 t436 0) = some (r1, r2, r3) := H
             have A22 := Aside0.mk A220
             clear A220
             have H' := Aside0.mk H
             clear H
             obtain ⟨Ao23, co23, eo23⟩ := Kd.R_slice HO_8.out
             subst eo23
             go_wp2_with (first | (go_at_call 40; (with_reducible refine (cambiumref01_TakeText.calls kj10 _ _ t432 t436 t437 t438 _ ?side1 ?side2 A22.out).mono ?_); (case side1 => repeat (first | exact (Kd.R_reads' HO_8.out).2.2 | (with_reducible refine Kd.C_alloc ?_ _) | (with_reducible refine Kd.C_drewN ?_ _) | (with_reducible refine Kd.C_drew ?_))); (case side2 => exact (Kd.R_reads' HO_8.out).2.1); rintro e w24 ⟨v439, rfl, ho0, hb⟩; have n0_ := Aside0.mk (Kd.V_elder' q14_ (Kd.R_base ho0) hb); have n1_ := Aside0.mk (Kd.S_elder' q10_ (Kd.R_base ho0) hb); have n2_ := Aside0.mk (Kd.R_elder' q11_ (Kd.R_base ho0) hb); have n3_ := Aside0.mk (Kd.R_lower (Kd.R_new' (Kd.R_newM (M := fun k_ => (w.heap.size ≤ k_)) ho0 (below_size q2_) (fun k_ h_ => h_)) (Kd.R_lt q11_)) (below_size q2_)); have n4_ := Aside0.mk (blk_below (g := gb430) (o := .cells #[.int .i64 t425, .string t431, .string (⟨#[]⟩ : ByteArray), .int .i64 0, .slice none 0 0] 37 (0, 0)) q13_ hb); have n5_ := Aside0.mk (below_step q2_ hb); clear HO_0; clear HO_6; clear HO_8; clear BK430; clear HB; have HO_0 := n0_; have HO_6 := n1_; have HO_8 := n2_; have HO440 := n3_; have BK430 := n4_; have HB := n5_; clear n0_ n1_ n2_ n3_ n4_ n5_; (try clear hb); (try clear hb2); (try clear hk); (try clear hi); (try clear ho0); have hcz25_0 : w24.cell? ⟨gb430, 0, none⟩ = some (.int .i64 t425) := (blk_cell BK430.out 0).trans rfl; have hcz25_1 : w24.cell? ⟨gb430, 1, none⟩ = some (.string t431) := (blk_cell BK430.out 1).trans rfl; have hcz25_2 : w24.cell? ⟨gb430, 2, none⟩ = some (.string (⟨#[]⟩ : ByteArray)) := (blk_cell BK430.out 2).trans rfl; have hcz25_3 : w24.cell? ⟨gb430, 3, none⟩ = some (.int .i64 0) := (blk_cell BK430.out 3).trans rfl; have hcz25_4 : w24.cell? ⟨gb430, 4, none⟩ = some (.slice none 0 0) := (blk_cell BK430.out 4).trans rfl; have hfz25_0 := blk_frozen BK430.out 0; have hfz25_1 := blk_frozen BK430.out 1; have hfz25_2 := blk_frozen BK430.out 2; have hfz25_3 := blk_frozen BK430.out 3; have hfz25_4 := blk_frozen BK430.out 4))
             repeat (go_quiet (first | (go_at_call 40; (with_reducible refine (cambiumref01_TakeText.calls kj10 _ _ t432 t436 t437 t438 _ ?side1 ?side2 A22.out).mono ?_); (case side1 => repeat (first | exact (Kd.R_reads' HO_8.out).2.2 | (with_reducible refine Kd.C_alloc ?_ _) | (with_reducible refine Kd.C_drewN ?_ _) | (with_reducible refine Kd.C_drew ?_))); (case side2 => exact (Kd.R_reads' HO_8.out).2.1); rintro e w24 ⟨v439, rfl, ho0, hb⟩; have n0_ := Aside0.mk (Kd.V_elder' q14_ (Kd.R_base ho0) hb); have n1_ := Aside0.mk (Kd.S_elder' q10_ (Kd.R_base ho0) hb); have n2_ := Aside0.mk (Kd.R_elder' q11_ (Kd.R_base ho0) hb); have n3_ := Aside0.mk (Kd.R_lower (Kd.R_new' (Kd.R_newM (M := fun k_ => (w.heap.size ≤ k_)) ho0 (below_size q2_) (fun k_ h_ => h_)) (Kd.R_lt q11_)) (below_size q2_)); have n4_ := Aside0.mk (blk_below (g := gb430) (o := .cells #[.int .i64 t425, .string t431, .string (⟨#[]⟩ : ByteArray), .int .i64 0, .slice none 0 0] 37 (0, 0)) q13_ hb); have n5_ := Aside0.mk (below_step q2_ hb); clear HO_0; clear HO_6; clear HO_8; clear BK430; clear HB; have HO_0 := n0_; have HO_6 := n1_; have HO_8 := n2_; have HO440 := n3_; have BK430 := n4_; have HB := n5_; clear n0_ n1_ n2_ n3_ n4_ n5_; (try clear hb); (try clear hb2); (try clear hk); (try clear hi); (try clear ho0); have hcz25_0 : w24.cell? ⟨gb430, 0, none⟩ = some (.int .i64 t425) := (blk_cell BK430.out 0).trans rfl; have hcz25_1 : w24.cell? ⟨gb430, 1, none⟩ = some (.string t431) := (blk_cell BK430.out 1).trans rfl; have hcz25_2 : w24.cell? ⟨gb430, 2, none⟩ = some (.string (⟨#[]⟩ : ByteArray)) := (blk_cell BK430.out 2).trans rfl; have hcz25_3 : w24.cell? ⟨gb430, 3, none⟩ = some (.int .i64 0) := (blk_cell BK430.out 3).trans rfl; have hcz25_4 : w24.cell? ⟨gb430, 4, none⟩ = some (.slice none 0 0) := (blk_cell BK430.out 4).trans rfl; have hfz25_0 := blk_frozen BK430.out 0; have hfz25_1 := blk_frozen BK430.out 1; have hfz25_2 := blk_frozen BK430.out 2; have hfz25_3 := blk_frozen BK430.out 3; have hfz25_4 := blk_frozen BK430.out 4)); try go_wp2_with (first | (go_at_call 40; (with_reducible refine (cambiumref01_TakeText.calls kj10 _ _ t432 t436 t437 t438 _ ?side1 ?side2 A22.out).mono ?_); (case side1 => repeat (first | exact (Kd.R_reads' HO_8.out).2.2 | (with_reducible refine Kd.C_alloc ?_ _) | (with_reducible refine Kd.C_drewN ?_ _) | (with_reducible refine Kd.C_drew ?_))); (case side2 => exact (Kd.R_reads' HO_8.out).2.1); rintro e w24 ⟨v439, rfl, ho0, hb⟩; have n0_ := Aside0.mk (Kd.V_elder' q14_ (Kd.R_base ho0) hb); have n1_ := Aside0.mk (Kd.S_elder' q10_ (Kd.R_base ho0) hb); have n2_ := Aside0.mk (Kd.R_elder' q11_ (Kd.R_base ho0) hb); have n3_ := Aside0.mk (Kd.R_lower (Kd.R_new' (Kd.R_newM (M := fun k_ => (w.heap.size ≤ k_)) ho0 (below_size q2_) (fun k_ h_ => h_)) (Kd.R_lt q11_)) (below_size q2_)); have n4_ := Aside0.mk (blk_below (g := gb430) (o := .cells #[.int .i64 t425, .string t431, .string (⟨#[]⟩ : ByteArray), .int .i64 0, .slice none 0 0] 37 (0, 0)) q13_ hb); have n5_ := Aside0.mk (below_step q2_ hb); clear HO_0; clear HO_6; clear HO_8; clear BK430; clear HB; have HO_0 := n0_; have HO_6 := n1_; have HO_8 := n2_; have HO440 := n3_; have BK430 := n4_; have HB := n5_; clear n0_ n1_ n2_ n3_ n4_ n5_; (try clear hb); (try clear hb2); (try clear hk); (try clear hi); (try clear ho0); have hcz25_0 : w24.cell? ⟨gb430, 0, none⟩ = some (.int .i64 t425) := (blk_cell BK430.out 0).trans rfl; have hcz25_1 : w24.cell? ⟨gb430, 1, none⟩ = some (.string t431) := (blk_cell BK430.out 1).trans rfl; have hcz25_2 : w24.cell? ⟨gb430, 2, none⟩ = some (.string (⟨#[]⟩ : ByteArray)) := (blk_cell BK430.out 2).trans rfl; have hcz25_3 : w24.cell? ⟨gb430, 3, none⟩ = some (.int .i64 0) := (blk_cell BK430.out 3).trans rfl; have hcz25_4 : w24.cell? ⟨gb430, 4, none⟩ = some (.slice none 0 0) := (blk_cell BK430.out 4).trans rfl; have hfz25_0 := blk_frozen BK430.out 0; have hfz25_1 := blk_frozen BK430.out 1; have hfz25_2 := blk_frozen BK430.out 2; have hfz25_3 := blk_frozen BK430.out 3; have hfz25_4 := blk_frozen BK430.out 4)))
             go_meet
             case rel => exact ⟨_, (t437), (t438), (t436), q3_, H', ⟨by have := HJ1.out; have := HK2.out; have := HJ10.out; first | omega | exact Nat.le_refl _⟩, ⟨by (with_reducible repeat (first | apply Kd.V_alloc | apply Kd.V_drewN | apply Kd.V_drew)); exact Kd.V_mono (Kd.V_far (p := ⟨gb430, 2, none⟩) (Kd.V_mono HO_0.out (fun k_ hk => (⟨hk, hk.1.2.2.2⟩ : _ ∧ k_ ≠ gb430))) (fun _ hk => hk.2) (.string t436)) (fun _ hk => ⟨hk.1.1.1, ⟨hk.1.1.2.1, ⟨hk.1.2, hk.1.1.2.2.2⟩⟩⟩)⟩, ⟨by (with_reducible repeat (first | apply Kd.S_alloc | apply Kd.S_drewN | apply Kd.S_drew)); exact Kd.S_mono (Kd.S_far (p := ⟨gb430, 2, none⟩) (Kd.S_mono HO_6.out (fun k_ hk => (⟨hk, hk.1.2.2⟩ : _ ∧ k_ ≠ gb430))) (fun _ hk => hk.2) (.string t436)) (fun _ hk => ⟨hk.1.1.1, ⟨hk.1.2, hk.1.1.2.2⟩⟩)⟩, ⟨by (with_reducible repeat (first | apply Kd.R_alloc | apply Kd.R_drewN | apply Kd.R_drew)); exact Kd.R_mono (Kd.R_far (p := ⟨gb430, 2, none⟩) (Kd.R_types HO440.out BK430.out q81_) (fun _ hk => hk.2) (.string t436)) (fun _ hk => hk.1.1.1)⟩, ⟨by (with_reducible repeat (first | refine blk_drewN ?_ _ | refine blk_drew ?_ | refine blk_alloc ?_ _)); refine blk_put (cs := #[.int .i64 t425, .string t431, .string (⟨#[]⟩ : ByteArray), .int .i64 0, .slice none 0 0]) ?_ 2 _ rfl; (with_reducible repeat (first | refine blk_drewN ?_ _ | refine blk_drew ?_ | refine blk_alloc ?_ _)); exact BK430.out⟩, ⟨q2_⟩⟩
            ·replace c21 := Bool.eq_false_iff.mpr c21
             subst c21
             have H1 : (cambiumref19_Take.j3 kj10 l0 x6_2 t425 t432 t433 t425 t431 (⟨#[]⟩ : ByteArray) 0) = some (r1, r2, r3) := by rw [if_neg (show ¬ (false = true) by decide)] at H; exact H
             clear H
             have H := H1
             clear H1
             have H' := Aside0.mk H
             clear H
             go_wp2
             repeat (go_quiet (fail); try go_wp2)
             go_meet
             case rel => exact ⟨_, (t432), (t433), ((⟨#[]⟩ : ByteArray)), q3_, H', ⟨by have := HJ1.out; have := HK2.out; have := HJ10.out; first | omega | exact Nat.le_refl _⟩, ⟨q14_⟩, ⟨q10_⟩, ⟨q11_⟩, ⟨q13_⟩, ⟨q2_⟩⟩
           case rest =>
            clear HC20
            try clear c1
            try clear c2
            try clear p2
            try clear c3
            try clear c3b0
            try clear c3b1
            try clear c4
            try clear c5
            try clear c5b0
            try clear c5b1
            try clear c6
            try clear c6b0
            try clear c6b1
            try clear p6
            try clear c7
            try clear q7
            try clear c8
            try clear c8b0
            try clear c8b1
            try clear c19
            try clear c19b0
            try clear c19b1
            try clear c21
            try clear c22
            try clear hcz15_0
            try clear hcz15_1
            try clear hcz15_2
            try clear hcz15_3
            try clear hcz15_4
            try clear hcz18_0
            try clear hcz18_1
            try clear hcz18_2
            try clear hcz18_3
            try clear hcz18_4
            try clear hcz25_0
            try clear hcz25_1
            try clear hcz25_2
            try clear hcz25_3
            try clear hcz25_4
            try clear hfz15_0
            try clear hfz15_1
            try clear hfz15_2
            try clear hfz15_3
            try clear hfz15_4
            try clear hfz18_0
            try clear hfz18_1
            try clear hfz18_2
            try clear hfz18_3
            try clear hfz18_4
            try clear hfz25_0
            try clear hfz25_1
            try clear hfz25_2
            try clear hfz25_3
            try clear hfz25_4
            try clear p2
            try clear p6
            try clear q7
            obtain ⟨kq, x8_19, x12_19, x431002_19, rfl, HA, HJ19, HO_0, HO_6, HO_8, BK430, HB⟩ := hcut
            cases kq with
            | zero => exact absurd (show none = some _ from HA.out) (by simp)
            | succ kj19 =>
             have H := HA.out
             clear HA
             simp only [cambiumref19_Take.j3] at H
             have HC26 := Aside0.mk H
             clear H
             go_upto_region 13 with (fail)
             repeat (go_quiet (fail); go_upto_region 13 with (fail))
             go_cut [76] (fun v76 wc => ∃ (kq : Nat) (x76_25 : Bool), v76 = .bool x76_25 ∧ Aside0 (cambiumref19_Take.j4 kq l0 x6_2 t425 x8_19 x12_19 x76_25 t425 t431 x431002_19 0 = some (r1, r2, r3)) ∧ Aside0 (kq ≤ kj19) ∧ Aside0 (Kd.V (Kd.int .u8) 5 wc w.heap.size (fun k_ => (P0_ k_ ∨ w.heap.size ≤ k_) ∧ some k_ ≠ (u6 : Value).ownBlock ∧ some k_ ≠ (u8 : Value).ownBlock ∧ k_ ≠ gb430) (.slice A0 l0.length c0) l0) ∧ Aside0 (Kd.S k37 37 wc w.heap.size (fun k_ => (w.heap.size ≤ k_) ∧ some k_ ≠ (u8 : Value).ownBlock ∧ k_ ≠ gb430) u6 x6_2) ∧ Aside0 (Kd.R (Kd.int .u8) 5 wc w.heap.size (fun k_ => (w.heap.size ≤ k_)) u8 x8_19) ∧ Aside0 (wc.heap[gb430]? = some (.cells #[.int .i64 t425, .string t431, .string x431002_19, .int .i64 0, (.slice none 0 0)] 37 (0, 0))) ∧ Aside0 (Below w.heap.size w wc))
             case first =>
              have H := HC26.out
              clear HC26
              by_cases c27 : x12_19 = 0
              ·rw [if_pos c27] at H
               have c27b0 : (x12_19 == 0) = true := beq_iff_eq.mpr c27
               have c27b1 : (x12_19 != 0) = false := bne_eq_false_iff_eq.mpr c27
               clear c27
               (first | rw [c27b0] | (simp only [i64_w, i32_w]; rw [c27b0]) | skip)
               by_cases c28 : t425 = 4
               ·rw [if_pos c28] at H
                have c28b0 : (t425 == 4) = true := beq_iff_eq.mpr c28
                have c28b1 : (t425 != 4) = false := bne_eq_false_iff_eq.mpr c28
                clear c28
                have H' := Aside0.mk H
                clear H
                go_wp2
                repeat (go_quiet (fail); try go_wp2)
                go_meet
                case rel => exact ⟨_, (true), q3_, H', ⟨by have := HJ1.out; have := HK2.out; have := HJ10.out; have := HJ19.out; first | omega | exact Nat.le_refl _⟩, ⟨q14_⟩, ⟨q10_⟩, ⟨q11_⟩, ⟨q13_⟩, ⟨q2_⟩⟩
               ·rw [if_neg c28] at H
                have c28b0 : (t425 == 4) = false := beq_eq_false_iff_ne.mpr c28
                have c28b1 : (t425 != 4) = true := bne_iff_ne.mpr c28
                have H' := Aside0.mk H
                clear H
                go_wp2
                repeat (go_quiet (fail); try go_wp2)
                go_meet
                case rel => exact ⟨_, ((t425 == 5)), q3_, H', ⟨by have := HJ1.out; have := HK2.out; have := HJ10.out; have := HJ19.out; first | omega | exact Nat.le_refl _⟩, ⟨q14_⟩, ⟨q10_⟩, ⟨q11_⟩, ⟨q13_⟩, ⟨q2_⟩⟩
              ·rw [if_neg c27] at H
               have c27b0 : (x12_19 == 0) = false := beq_eq_false_iff_ne.mpr c27
               have c27b1 : (x12_19 != 0) = true := bne_iff_ne.mpr c27
               (first | rw [c27b0] | (simp only [i64_w, i32_w]; rw [c27b0]) | skip)
               have H' := Aside0.mk H
               clear H
               go_wp2
               repeat (go_quiet (fail); try go_wp2)
               go_meet
               case rel => exact ⟨_, (false), q3_, H', ⟨by have := HJ1.out; have := HK2.out; have := HJ10.out; have := HJ19.out; first | omega | exact Nat.le_refl _⟩, ⟨q14_⟩, ⟨q10_⟩, ⟨q11_⟩, ⟨q13_⟩, ⟨q2_⟩⟩
             case rest =>
              clear HC26
              try clear c1
              try clear c2
              try clear p2
              try clear c3
              try clear c3b0
              try clear c3b1
              try clear c4
              try clear c5
              try clear c5b0
              try clear c5b1
              try clear c6
              try clear c6b0
              try clear c6b1
              try clear p6
              try clear c7
              try clear q7
              try clear c8
              try clear c8b0
              try clear c8b1
              try clear c19
              try clear c19b0
              try clear c19b1
              try clear c21
              try clear c22
              try clear c27
              try clear c27b0
              try clear c27b1
              try clear c28
              try clear c28b0
              try clear c28b1
              try clear hcz15_0
              try clear hcz15_1
              try clear hcz15_2
              try clear hcz15_3
              try clear hcz15_4
              try clear hcz18_0
              try clear hcz18_1
              try clear hcz18_2
              try clear hcz18_3
              try clear hcz18_4
              try clear hcz25_0
              try clear hcz25_1
              try clear hcz25_2
              try clear hcz25_3
              try clear hcz25_4
              try clear hfz15_0
              try clear hfz15_1
              try clear hfz15_2
              try clear hfz15_3
              try clear hfz15_4
              try clear hfz18_0
              try clear hfz18_1
              try clear hfz18_2
              try clear hfz18_3
              try clear hfz18_4
              try clear hfz25_0
              try clear hfz25_1
              try clear hfz25_2
              try clear hfz25_3
              try clear hfz25_4
              try clear p2
              try clear p6
              try clear q7
              obtain ⟨kq, x76_25, rfl, HA, HJ25, HO_0, HO_6, HO_8, BK430, HB⟩ := hcut
              cases kq with
              | zero => exact absurd (show none = some _ from HA.out) (by simp)
              | succ kj25 =>
               have H := HA.out
               clear HA
               simp only [cambiumref19_Take.j4] at H
               have HC29 := Aside0.mk H
               clear H
               go_upto_if 76 with (fail)
               repeat (go_quiet (fail); go_upto_if 76 with (fail))
               go_cut [8, 12] (fun v8 v12 wc => ∃ (kq : Nat) (x8_28 : List Int) (x12_28 : Int) (x431003_28 : Int), v12 = .int .i64 x12_28 ∧ Aside0 (cambiumref19_Take.j5 kq l0 x6_2 t425 x8_28 x12_28 t425 t431 x431002_19 x431003_28 = some (r1, r2, r3)) ∧ Aside0 (kq ≤ kj25) ∧ Aside0 (Kd.V (Kd.int .u8) 5 wc w.heap.size (fun k_ => (P0_ k_ ∨ w.heap.size ≤ k_) ∧ some k_ ≠ (u6 : Value).ownBlock ∧ k_ ≠ gb430) (.slice A0 l0.length c0) l0) ∧ Aside0 (Kd.S k37 37 wc w.heap.size (fun k_ => (w.heap.size ≤ k_) ∧ k_ ≠ gb430) u6 x6_2) ∧ Aside0 (Kd.V (Kd.int .u8) 5 wc w.heap.size (fun k_ => (P0_ k_ ∨ w.heap.size ≤ k_) ∧ some k_ ≠ (u6 : Value).ownBlock ∧ k_ ≠ gb430) v8 x8_28) ∧ Aside0 (wc.heap[gb430]? = some (.cells #[.int .i64 t425, .string t431, .string x431002_19, .int .i64 x431003_28, (.slice none 0 0)] 37 (0, 0))) ∧ Aside0 (Below w.heap.size w wc))
               case first =>
                have H := HC29.out
                clear HC29
                by_cases c30 : x76_25 = true
                ·subst c30
                 have H1 : ((cambiumref01_Take.f kj25 x8_19 4).bind fun bt441 => (cambiumref19_Take.j5 kj25 l0 x6_2 t425 bt441.2.1 bt441.2.2 t425 t431 x431002_19 bt441.1)) = some (r1, r2, r3) := by rw [if_pos rfl] at H; exact H
                 clear H
                 have H := H1
                 clear H1
                 replace H := Option.bind_eq_some_iff.mp H
                 obtain ⟨⟨t441, t442, t445⟩, A310, H⟩ := H
                 replace H : (cambiumref19_Take.j5 kj25 l0 x6_2 t425 t442 t445 t425 t431 x431002_19 t441) = some (r1, r2, r3) := H
                 have A31 := Aside0.mk A310
                 clear A310
                 have H' := Aside0.mk H
                 clear H
                 obtain ⟨Ao32, co32, eo32⟩ := Kd.R_slice HO_8.out
                 subst eo32
                 go_wp2_with (first | (go_at_call 39; (with_reducible refine (cambiumref01_Take.calls kj25 _ _ x8_19 4 t441 t442 t445 _ ?side1 ?side2 A31.out).mono ?_); (case side1 => repeat (first | exact (Kd.R_reads' HO_8.out).2.2 | (with_reducible refine Kd.C_alloc ?_ _) | (with_reducible refine Kd.C_drewN ?_ _) | (with_reducible refine Kd.C_drew ?_))); (case side2 => exact (Kd.R_reads' HO_8.out).2.1); rintro e w33 ⟨v443, rfl, ho0, hb⟩; have n0_ := Aside0.mk (Kd.V_below q14_ hb); have n1_ := Aside0.mk (Kd.S_below q10_ hb); have n2_ := Aside0.mk (Kd.R_below q11_ hb); have n3_ := Aside0.mk (Kd.V_lower (Kd.V_mono (ok' := fun k_ => (P0_ k_ ∨ w.heap.size ≤ k_) ∧ some k_ ≠ (u6 : Value).ownBlock ∧ some k_ ≠ (.slice Ao32 x8_19.length co32 : Value).ownBlock ∧ k_ ≠ gb430) ho0 (fun k_ hk_ => ⟨(.inr (Nat.le_trans (below_size q2_) hk_)), (Kd.fresh' (Kd.S_lt q10_) k_ hk_), (Kd.fresh' (Kd.R_lt q11_) k_ hk_), (Kd.freshB (g := gb430) (o := .cells #[.int .i64 t425, .string t431, .string x431002_19, .int .i64 0, .slice none 0 0] 37 (0, 0)) q13_ k_ hk_)⟩)) (below_size q2_)); have n4_ := Aside0.mk (blk_below (g := gb430) (o := .cells #[.int .i64 t425, .string t431, .string x431002_19, .int .i64 0, .slice none 0 0] 37 (0, 0)) q13_ hb); have n5_ := Aside0.mk (below_step q2_ hb); clear HO_0; clear HO_6; clear HO_8; clear BK430; clear HB; have HO_0 := n0_; have HO_6 := n1_; have HO_8 := n2_; have HO444 := n3_; have BK430 := n4_; have HB := n5_; clear n0_ n1_ n2_ n3_ n4_ n5_; (try clear hb); (try clear hb2); (try clear hk); (try clear hi); (try clear ho0); have hcz34_0 : w33.cell? ⟨gb430, 0, none⟩ = some (.int .i64 t425) := (blk_cell BK430.out 0).trans rfl; have hcz34_1 : w33.cell? ⟨gb430, 1, none⟩ = some (.string t431) := (blk_cell BK430.out 1).trans rfl; have hcz34_2 : w33.cell? ⟨gb430, 2, none⟩ = some (.string x431002_19) := (blk_cell BK430.out 2).trans rfl; have hcz34_3 : w33.cell? ⟨gb430, 3, none⟩ = some (.int .i64 0) := (blk_cell BK430.out 3).trans rfl; have hcz34_4 : w33.cell? ⟨gb430, 4, none⟩ = some (.slice none 0 0) := (blk_cell BK430.out 4).trans rfl; have hfz34_0 := blk_frozen BK430.out 0; have hfz34_1 := blk_frozen BK430.out 1; have hfz34_2 := blk_frozen BK430.out 2; have hfz34_3 := blk_frozen BK430.out 3; have hfz34_4 := blk_frozen BK430.out 4))
                 repeat (go_quiet (first | (go_at_call 39; (with_reducible refine (cambiumref01_Take.calls kj25 _ _ x8_19 4 t441 t442 t445 _ ?side1 ?side2 A31.out).mono ?_); (case side1 => repeat (first | exact (Kd.R_reads' HO_8.out).2.2 | (with_reducible refine Kd.C_alloc ?_ _) | (with_reducible refine Kd.C_drewN ?_ _) | (with_reducible refine Kd.C_drew ?_))); (case side2 => exact (Kd.R_reads' HO_8.out).2.1); rintro e w33 ⟨v443, rfl, ho0, hb⟩; have n0_ := Aside0.mk (Kd.V_below q14_ hb); have n1_ := Aside0.mk (Kd.S_below q10_ hb); have n2_ := Aside0.mk (Kd.R_below q11_ hb); have n3_ := Aside0.mk (Kd.V_lower (Kd.V_mono (ok' := fun k_ => (P0_ k_ ∨ w.heap.size ≤ k_) ∧ some k_ ≠ (u6 : Value).ownBlock ∧ some k_ ≠ (.slice Ao32 x8_19.length co32 : Value).ownBlock ∧ k_ ≠ gb430) ho0 (fun k_ hk_ => ⟨(.inr (Nat.le_trans (below_size q2_) hk_)), (Kd.fresh' (Kd.S_lt q10_) k_ hk_), (Kd.fresh' (Kd.R_lt q11_) k_ hk_), (Kd.freshB (g := gb430) (o := .cells #[.int .i64 t425, .string t431, .string x431002_19, .int .i64 0, .slice none 0 0] 37 (0, 0)) q13_ k_ hk_)⟩)) (below_size q2_)); have n4_ := Aside0.mk (blk_below (g := gb430) (o := .cells #[.int .i64 t425, .string t431, .string x431002_19, .int .i64 0, .slice none 0 0] 37 (0, 0)) q13_ hb); have n5_ := Aside0.mk (below_step q2_ hb); clear HO_0; clear HO_6; clear HO_8; clear BK430; clear HB; have HO_0 := n0_; have HO_6 := n1_; have HO_8 := n2_; have HO444 := n3_; have BK430 := n4_; have HB := n5_; clear n0_ n1_ n2_ n3_ n4_ n5_; (try clear hb); (try clear hb2); (try clear hk); (try clear hi); (try clear ho0); have hcz34_0 : w33.cell? ⟨gb430, 0, none⟩ = some (.int .i64 t425) := (blk_cell BK430.out 0).trans rfl; have hcz34_1 : w33.cell? ⟨gb430, 1, none⟩ = some (.string t431) := (blk_cell BK430.out 1).trans rfl; have hcz34_2 : w33.cell? ⟨gb430, 2, none⟩ = some (.string x431002_19) := (blk_cell BK430.out 2).trans rfl; have hcz34_3 : w33.cell? ⟨gb430, 3, none⟩ = some (.int .i64 0) := (blk_cell BK430.out 3).trans rfl; have hcz34_4 : w33.cell? ⟨gb430, 4, none⟩ = some (.slice none 0 0) := (blk_cell BK430.out 4).trans rfl; have hfz34_0 := blk_frozen BK430.out 0; have hfz34_1 := blk_frozen BK430.out 1; have hfz34_2 := blk_frozen BK430.out 2; have hfz34_3 := blk_frozen BK430.out 3; have hfz34_4 := blk_frozen BK430.out 4)); try go_wp2_with (first | (go_at_call 39; (with_reducible refine (cambiumref01_Take.calls kj25 _ _ x8_19 4 t441 t442 t445 _ ?side1 ?side2 A31.out).mono ?_); (case side1 => repeat (first | exact (Kd.R_reads' HO_8.out).2.2 | (with_reducible refine Kd.C_alloc ?_ _) | (with_reducible refine Kd.C_drewN ?_ _) | (with_reducible refine Kd.C_drew ?_))); (case side2 => exact (Kd.R_reads' HO_8.out).2.1); rintro e w33 ⟨v443, rfl, ho0, hb⟩; have n0_ := Aside0.mk (Kd.V_below q14_ hb); have n1_ := Aside0.mk (Kd.S_below q10_ hb); have n2_ := Aside0.mk (Kd.R_below q11_ hb); have n3_ := Aside0.mk (Kd.V_lower (Kd.V_mono (ok' := fun k_ => (P0_ k_ ∨ w.heap.size ≤ k_) ∧ some k_ ≠ (u6 : Value).ownBlock ∧ some k_ ≠ (.slice Ao32 x8_19.length co32 : Value).ownBlock ∧ k_ ≠ gb430) ho0 (fun k_ hk_ => ⟨(.inr (Nat.le_trans (below_size q2_) hk_)), (Kd.fresh' (Kd.S_lt q10_) k_ hk_), (Kd.fresh' (Kd.R_lt q11_) k_ hk_), (Kd.freshB (g := gb430) (o := .cells #[.int .i64 t425, .string t431, .string x431002_19, .int .i64 0, .slice none 0 0] 37 (0, 0)) q13_ k_ hk_)⟩)) (below_size q2_)); have n4_ := Aside0.mk (blk_below (g := gb430) (o := .cells #[.int .i64 t425, .string t431, .string x431002_19, .int .i64 0, .slice none 0 0] 37 (0, 0)) q13_ hb); have n5_ := Aside0.mk (below_step q2_ hb); clear HO_0; clear HO_6; clear HO_8; clear BK430; clear HB; have HO_0 := n0_; have HO_6 := n1_; have HO_8 := n2_; have HO444 := n3_; have BK430 := n4_; have HB := n5_; clear n0_ n1_ n2_ n3_ n4_ n5_; (try clear hb); (try clear hb2); (try clear hk); (try clear hi); (try clear ho0); have hcz34_0 : w33.cell? ⟨gb430, 0, none⟩ = some (.int .i64 t425) := (blk_cell BK430.out 0).trans rfl; have hcz34_1 : w33.cell? ⟨gb430, 1, none⟩ = some (.string t431) := (blk_cell BK430.out 1).trans rfl; have hcz34_2 : w33.cell? ⟨gb430, 2, none⟩ = some (.string x431002_19) := (blk_cell BK430.out 2).trans rfl; have hcz34_3 : w33.cell? ⟨gb430, 3, none⟩ = some (.int .i64 0) := (blk_cell BK430.out 3).trans rfl; have hcz34_4 : w33.cell? ⟨gb430, 4, none⟩ = some (.slice none 0 0) := (blk_cell BK430.out 4).trans rfl; have hfz34_0 := blk_frozen BK430.out 0; have hfz34_1 := blk_frozen BK430.out 1; have hfz34_2 := blk_frozen BK430.out 2; have hfz34_3 := blk_frozen BK430.out 3; have hfz34_4 := blk_frozen BK430.out 4)))
                 go_meet
                 case rel => exact ⟨_, (t442), (t445), (t441), q3_, H', ⟨by have := HJ1.out; have := HK2.out; have := HJ10.out; have := HJ19.out; have := HJ25.out; first | omega | exact Nat.le_refl _⟩, ⟨by (with_reducible repeat (first | apply Kd.V_alloc | apply Kd.V_drewN | apply Kd.V_drew)); exact Kd.V_mono (Kd.V_far (p := ⟨gb430, 3, none⟩) (Kd.V_mono HO_0.out (fun k_ hk => (⟨hk, hk.2.2.2⟩ : _ ∧ k_ ≠ gb430))) (fun _ hk => hk.2) (.int .i64 t441)) (fun _ hk => ⟨hk.1.1, ⟨hk.1.2.1, hk.1.2.2.2⟩⟩)⟩, ⟨by (with_reducible repeat (first | apply Kd.S_alloc | apply Kd.S_drewN | apply Kd.S_drew)); exact Kd.S_mono (Kd.S_far (p := ⟨gb430, 3, none⟩) (Kd.S_mono HO_6.out (fun k_ hk => (⟨hk, hk.2.2⟩ : _ ∧ k_ ≠ gb430))) (fun _ hk => hk.2) (.int .i64 t441)) (fun _ hk => ⟨hk.1.1, hk.1.2.2⟩)⟩, ⟨by (with_reducible repeat (first | apply Kd.V_alloc | apply Kd.V_drewN | apply Kd.V_drew)); exact Kd.V_mono (Kd.V_far (p := ⟨gb430, 3, none⟩) (Kd.V_mono HO444.out (fun k_ hk => (⟨hk, hk.2.2.2⟩ : _ ∧ k_ ≠ gb430))) (fun _ hk => hk.2) (.int .i64 t441)) (fun _ hk => ⟨hk.1.1, ⟨hk.1.2.1, hk.1.2.2.2⟩⟩)⟩, ⟨by (with_reducible repeat (first | refine blk_drewN ?_ _ | refine blk_drew ?_ | refine blk_alloc ?_ _)); refine blk_put (cs := #[.int .i64 t425, .string t431, .string x431002_19, .int .i64 0, .slice none 0 0]) ?_ 3 _ rfl; (with_reducible repeat (first | refine blk_drewN ?_ _ | refine blk_drew ?_ | refine blk_alloc ?_ _)); exact BK430.out⟩, ⟨q2_⟩⟩
                ·replace c30 := Bool.eq_false_iff.mpr c30
                 subst c30
                 have H1 : (cambiumref19_Take.j5 kj25 l0 x6_2 t425 x8_19 x12_19 t425 t431 x431002_19 0) = some (r1, r2, r3) := by rw [if_neg (show ¬ (false = true) by decide)] at H; exact H
                 clear H
                 have H := H1
                 clear H1
                 have H' := Aside0.mk H
                 clear H
                 go_wp2
                 repeat (go_quiet (fail); try go_wp2)
                 go_meet
                 case rel => exact ⟨_, (x8_19), (x12_19), (0), q3_, H', ⟨by have := HJ1.out; have := HK2.out; have := HJ10.out; have := HJ19.out; have := HJ25.out; first | omega | exact Nat.le_refl _⟩, ⟨by (with_reducible repeat (first | apply Kd.V_alloc | apply Kd.V_drewN | apply Kd.V_drew)); exact Kd.V_mono HO_0.out (fun _ hk => ⟨hk.1, ⟨hk.2.1, hk.2.2.2⟩⟩)⟩, ⟨by (with_reducible repeat (first | apply Kd.S_alloc | apply Kd.S_drewN | apply Kd.S_drew)); exact Kd.S_mono HO_6.out (fun _ hk => ⟨hk.1, hk.2.2⟩)⟩, ⟨Kd.V_mono (Kd.R_V (by (with_reducible repeat (first | apply Kd.R_alloc | apply Kd.R_drewN | apply Kd.R_drew)); exact Kd.R_mono (Kd.R_types (Kd.R_apart' HO_8.out (Kd.S_typed HO_6.out) q81_) BK430.out q81_) (fun _ hk => And.intro hk.1.1 (And.intro hk.1.2 hk.2)))) (fun k_ hk => by first | exact ⟨(.inr (hk.1)), hk.2⟩ | exact (.inr (hk)))⟩, ⟨q13_⟩, ⟨q2_⟩⟩
               case rest =>
                clear HC29
                try clear c1
                try clear c2
                try clear p2
                try clear c3
                try clear c3b0
                try clear c3b1
                try clear c4
                try clear c5
                try clear c5b0
                try clear c5b1
                try clear c6
                try clear c6b0
                try clear c6b1
                try clear p6
                try clear c7
                try clear q7
                try clear c8
                try clear c8b0
                try clear c8b1
                try clear c19
                try clear c19b0
                try clear c19b1
                try clear c21
                try clear c22
                try clear c27
                try clear c27b0
                try clear c27b1
                try clear c28
                try clear c28b0
                try clear c28b1
                try clear c30
                try clear hcz15_0
                try clear hcz15_1
                try clear hcz15_2
                try clear hcz15_3
                try clear hcz15_4
                try clear hcz18_0
                try clear hcz18_1
                try clear hcz18_2
                try clear hcz18_3
                try clear hcz18_4
                try clear hcz25_0
                try clear hcz25_1
                try clear hcz25_2
                try clear hcz25_3
                try clear hcz25_4
                try clear hcz34_0
                try clear hcz34_1
                try clear hcz34_2
                try clear hcz34_3
                try clear hcz34_4
                try clear hfz15_0
                try clear hfz15_1
                try clear hfz15_2
                try clear hfz15_3
                try clear hfz15_4
                try clear hfz18_0
                try clear hfz18_1
                try clear hfz18_2
                try clear hfz18_3
                try clear hfz18_4
                try clear hfz25_0
                try clear hfz25_1
                try clear hfz25_2
                try clear hfz25_3
                try clear hfz25_4
                try clear hfz34_0
                try clear hfz34_1
                try clear hfz34_2
                try clear hfz34_3
                try clear hfz34_4
                try clear p2
                try clear p6
                try clear q7
                obtain ⟨kq, x8_28, x12_28, x431003_28, rfl, HA, HJ28, HO_0, HO_6, HO_8, BK430, HB⟩ := hcut
                cases kq with
                | zero => exact absurd (show none = some _ from HA.out) (by simp)
                | succ kj28 =>
                 have H := HA.out
                 clear HA
                 simp only [cambiumref19_Take.j5] at H
                 have HC35 := Aside0.mk H
                 clear H
                 go_upto_region 18 with (fail)
                 repeat (go_quiet (fail); go_upto_region 18 with (fail))
                 go_cut [92] (fun v92 wc => ∃ (kq : Nat) (x92_34 : Bool), v92 = .bool x92_34 ∧ Aside0 (cambiumref19_Take.j6 kq l0 x6_2 x8_28 x12_28 x92_34 t425 t431 x431002_19 x431003_28 = some (r1, r2, r3)) ∧ Aside0 (kq ≤ kj28) ∧ Aside0 (Kd.V (Kd.int .u8) 5 wc w.heap.size (fun k_ => (P0_ k_ ∨ w.heap.size ≤ k_) ∧ some k_ ≠ (u6 : Value).ownBlock ∧ k_ ≠ gb430) (.slice A0 l0.length c0) l0) ∧ Aside0 (Kd.S k37 37 wc w.heap.size (fun k_ => (w.heap.size ≤ k_) ∧ k_ ≠ gb430) u6 x6_2) ∧ Aside0 (Kd.V (Kd.int .u8) 5 wc w.heap.size (fun k_ => (P0_ k_ ∨ w.heap.size ≤ k_) ∧ some k_ ≠ (u6 : Value).ownBlock ∧ k_ ≠ gb430) u8 x8_28) ∧ Aside0 (wc.heap[gb430]? = some (.cells #[.int .i64 t425, .string t431, .string x431002_19, .int .i64 x431003_28, (.slice none 0 0)] 37 (0, 0))) ∧ Aside0 (Below w.heap.size w wc))
                 case first =>
                  have H := HC35.out
                  clear HC35
                  by_cases c36 : x12_28 = 0
                  ·rw [if_pos c36] at H
                   have c36b0 : (x12_28 == 0) = true := beq_iff_eq.mpr c36
                   have c36b1 : (x12_28 != 0) = false := bne_eq_false_iff_eq.mpr c36
                   clear c36
                   (first | rw [c36b0] | (simp only [i64_w, i32_w]; rw [c36b0]) | skip)
                   have H' := Aside0.mk H
                   clear H
                   go_wp2
                   repeat (go_quiet (fail); try go_wp2)
                   go_meet
                   case rel => exact ⟨_, ((t425 == 4)), q3_, H', ⟨by have := HJ1.out; have := HK2.out; have := HJ10.out; have := HJ19.out; have := HJ25.out; have := HJ28.out; first | omega | exact Nat.le_refl _⟩, ⟨q14_⟩, ⟨q10_⟩, ⟨q57_⟩, ⟨q13_⟩, ⟨q2_⟩⟩
                  ·rw [if_neg c36] at H
                   have c36b0 : (x12_28 == 0) = false := beq_eq_false_iff_ne.mpr c36
                   have c36b1 : (x12_28 != 0) = true := bne_iff_ne.mpr c36
                   (first | rw [c36b0] | (simp only [i64_w, i32_w]; rw [c36b0]) | skip)
                   have H' := Aside0.mk H
                   clear H
                   go_wp2
                   repeat (go_quiet (fail); try go_wp2)
                   go_meet
                   case rel => exact ⟨_, (false), q3_, H', ⟨by have := HJ1.out; have := HK2.out; have := HJ10.out; have := HJ19.out; have := HJ25.out; have := HJ28.out; first | omega | exact Nat.le_refl _⟩, ⟨q14_⟩, ⟨q10_⟩, ⟨q57_⟩, ⟨q13_⟩, ⟨q2_⟩⟩
                 case rest =>
                  clear HC35
                  try clear c1
                  try clear c2
                  try clear p2
                  try clear c3
                  try clear c3b0
                  try clear c3b1
                  try clear c4
                  try clear c5
                  try clear c5b0
                  try clear c5b1
                  try clear c6
                  try clear c6b0
                  try clear c6b1
                  try clear p6
                  try clear c7
                  try clear q7
                  try clear c8
                  try clear c8b0
                  try clear c8b1
                  try clear c19
                  try clear c19b0
                  try clear c19b1
                  try clear c21
                  try clear c22
                  try clear c27
                  try clear c27b0
                  try clear c27b1
                  try clear c28
                  try clear c28b0
                  try clear c28b1
                  try clear c30
                  try clear c36
                  try clear c36b0
                  try clear c36b1
                  try clear hcz15_0
                  try clear hcz15_1
                  try clear hcz15_2
                  try clear hcz15_3
                  try clear hcz15_4
                  try clear hcz18_0
                  try clear hcz18_1
                  try clear hcz18_2
                  try clear hcz18_3
                  try clear hcz18_4
                  try clear hcz25_0
                  try clear hcz25_1
                  try clear hcz25_2
                  try clear hcz25_3
                  try clear hcz25_4
                  try clear hcz34_0
                  try clear hcz34_1
                  try clear hcz34_2
                  try clear hcz34_3
                  try clear hcz34_4
                  try clear hfz15_0
                  try clear hfz15_1
                  try clear hfz15_2
                  try clear hfz15_3
                  try clear hfz15_4
                  try clear hfz18_0
                  try clear hfz18_1
                  try clear hfz18_2
                  try clear hfz18_3
                  try clear hfz18_4
                  try clear hfz25_0
                  try clear hfz25_1
                  try clear hfz25_2
                  try clear hfz25_3
                  try clear hfz25_4
                  try clear hfz34_0
                  try clear hfz34_1
                  try clear hfz34_2
                  try clear hfz34_3
                  try clear hfz34_4
                  try clear p2
                  try clear p6
                  try clear q7
                  obtain ⟨kq, x92_34, rfl, HA, HJ34, HO_0, HO_6, HO_8, BK430, HB⟩ := hcut
                  cases kq with
                  | zero => exact absurd (show none = some _ from HA.out) (by simp)
                  | succ kj34 =>
                   have H := HA.out
                   clear HA
                   simp only [cambiumref19_Take.j6] at H
                   by_cases c37 : x92_34 = true
                   ·subst c37
                    have H1 : ((cambiumref01_TakeBytes.f kj34 x8_28).bind fun bt446 => (if bt446.2.2 = 0 then (if x6_2.length < 1954687338268 then (cambiumref19_Take.l0 kj34 l0 bt446.2.1 (x6_2 ++ [(⟨t425, t431, x431002_19, x431003_28, bt446.1⟩ : S37)])) else (none)) else (some (([] : List (S37)), false, 26)))) = some (r1, r2, r3) := by rw [if_pos rfl] at H; exact H
                    clear H
                    have H := H1
                    clear H1
                    replace H := Option.bind_eq_some_iff.mp H
                    obtain ⟨⟨t446, t447, t448⟩, A380, H⟩ := H
                    replace H : (if t448 = 0 then (if x6_2.length < 1954687338268 then (cambiumref19_Take.l0 kj34 l0 t447 (x6_2 ++ [(⟨t425, t431, x431002_19, x431003_28, t446⟩ : S37)])) else (none)) else (some (([] : List (S37)), false, 26))) = some (r1, r2, r3) := H
                    have A38 := Aside0.mk A380
                    clear A380
                    by_cases c39 : t448 = 0
                    ·rw [if_pos c39] at H
                     have c39b0 : (t448 == 0) = true := beq_iff_eq.mpr c39
                     have c39b1 : (t448 != 0) = false := bne_eq_false_iff_eq.mpr c39
                     clear c39
                     by_cases c40 : x6_2.length < 1954687338268
                     ·rw [if_pos c40] at H
                      have LMc40 := Aside0.mk c40
                      clear c40
                      obtain ⟨y453, hy453⟩ : ∃ y_ : List (S37), y_ = (x6_2 ++ [(⟨t425, t431, x431002_19, x431003_28, t446⟩ : S37)]) := ⟨_, rfl⟩
                      replace H : (cambiumref19_Take.l0 kj34 l0 t447 y453) = some (r1, r2, r3) := by first | (rw [hy453]; with_reducible exact H) | (have H2_ := (Option.bind_some _ _).symm.trans H; rw [hy453]; with_reducible exact H2_) | (have H2_ := (Option.bind_some _ _).symm.trans H; with_reducible exact H2_) | with_reducible exact H | (rw [hy453]; exact H) | exact H
                      have Ny453 := Aside0.mk hy453
                      clear hy453
                      have H' := Aside0.mk H
                      clear H
                      obtain ⟨Ao41, co41, eo41⟩ := Kd.V_slice HO_8.out
                      subst eo41
                      go_wp2_with (first | (go_at_call 41; (with_reducible refine (cambiumref01_TakeBytes.calls kj34 _ _ x8_28 t446 t447 t448 _ ?side1 ?side2 A38.out).mono ?_); (case side1 => repeat (first | exact (Kd.V_reads' HO_8.out).2.2 | (with_reducible refine Kd.C_alloc ?_ _) | (with_reducible refine Kd.C_drewN ?_ _) | (with_reducible refine Kd.C_drew ?_))); (case side2 => exact (Kd.V_reads' HO_8.out).2.1); rintro e w42 ⟨v449, v451, rfl, ho0, ho1, hb⟩; have n0_ := Aside0.mk (Kd.V_mono (Kd.V_told (Kd.V_told (Kd.V_old q14_ hb) (Kd.R_base ho0)) (Kd.R_base ho1)) (fun _ h_ => h_.1)); have n1_ := Aside0.mk (Kd.S_mono (Kd.S_told (Kd.S_told (Kd.S_old q10_ hb) (Kd.R_base ho0)) (Kd.R_base ho1)) (fun _ h_ => h_.1)); have n2_ := Aside0.mk (Kd.V_mono (Kd.V_told (Kd.V_told (Kd.V_old q57_ hb) (Kd.R_base ho0)) (Kd.R_base ho1)) (fun _ h_ => h_.1)); have n3_ := Aside0.mk (Kd.R_lower (Kd.R_newM (M := fun k_ => (w.heap.size ≤ k_)) ho0 (below_size q2_) (fun k_ h_ => h_)) (below_size q2_)); have n4_ := Aside0.mk (Kd.R_lower (Kd.R_newM (M := fun k_ => (w.heap.size ≤ k_)) ho1 (below_size q2_) (fun k_ h_ => h_)) (below_size q2_)); have n5_ := Aside0.mk (blk_below (g := gb430) (o := .cells #[.int .i64 t425, .string t431, .string x431002_19, .int .i64 x431003_28, .slice none 0 0] 37 (0, 0)) q13_ hb); have n6_ := Aside0.mk (below_step q2_ hb); clear HO_0; clear HO_6; clear HO_8; clear BK430; clear HB; have HO_0 := n0_; have HO_6 := n1_; have HO_8 := n2_; have HO450 := n3_; have HO452 := n4_; have BK430 := n5_; have HB := n6_; clear n0_ n1_ n2_ n3_ n4_ n5_ n6_; (try clear hb); (try clear hb2); (try clear hk); (try clear hi); (try clear ho0); (try clear ho1); obtain ⟨Ao43, co43, eo43⟩ := Kd.R_slice HO450.out; subst eo43; have hcz44_0 : w42.cell? ⟨gb430, 0, none⟩ = some (.int .i64 t425) := (blk_cell BK430.out 0).trans rfl; have hcz44_1 : w42.cell? ⟨gb430, 1, none⟩ = some (.string t431) := (blk_cell BK430.out 1).trans rfl; have hcz44_2 : w42.cell? ⟨gb430, 2, none⟩ = some (.string x431002_19) := (blk_cell BK430.out 2).trans rfl; have hcz44_3 : w42.cell? ⟨gb430, 3, none⟩ = some (.int .i64 x431003_28) := (blk_cell BK430.out 3).trans rfl; have hcz44_4 : w42.cell? ⟨gb430, 4, none⟩ = some (.slice none 0 0) := (blk_cell BK430.out 4).trans rfl; have hfz44_0 := blk_frozen BK430.out 0; have hfz44_1 := blk_frozen BK430.out 1; have hfz44_2 := blk_frozen BK430.out 2; have hfz44_3 := blk_frozen BK430.out 3; have hfz44_4 := blk_frozen BK430.out 4) | ((with_reducible refine gate_store (t := 35) (p := 100) rfl ?_); (try (rw [drewN_self w42]; generalize hq_ : World.drewN w42 _ = w42; have n0_ := Aside0.mk (Kd.V_at hq_ HO_0.out); have n1_ := Aside0.mk (Kd.S_at hq_ HO_6.out); have n2_ := Aside0.mk (Kd.V_at hq_ HO_8.out); have n3_ := Aside0.mk (Kd.R_at hq_ HO450.out); have n4_ := Aside0.mk (Kd.R_at hq_ HO452.out); have n5_ := Aside0.mk (blk_at hq_ BK430.out); have n6_ := Aside0.mk (below_at hq_ HB.out); clear hq_ HO_0 HO_6 HO_8 HO450 HO452 BK430 HB; have HO_0 := n0_; have HO_6 := n1_; have HO_8 := n2_; have HO450 := n3_; have HO452 := n4_; have BK430 := n5_; have HB := n6_; clear n0_ n1_ n2_ n3_ n4_ n5_ n6_)); refine store_event (t := 35) (p := 100) (v := ?vo_w45) (w1 := (w42.setCell ⟨gb430, 4, none⟩ (.slice Ao43 t446.length co43))) ?hg ?ho ?hn ?hr ?_; (case ho => rfl); (case hg => rfl); (case hn => rfl); (case hr => first | (go_simp; done) | (go_simp; rfl)); intro w45 hw; have n0_ : Aside0 (Kd.V (Kd.int .u8) 5 w45 w.heap.size (fun k_ => (P0_ k_ ∨ w.heap.size ≤ k_) ∧ some k_ ≠ (u6 : Value).ownBlock ∧ some k_ ≠ (.slice Ao43 t446.length co43 : Value).ownBlock ∧ some k_ ≠ (v451 : Value).ownBlock ∧ k_ ≠ gb430) (.slice A0 l0.length c0) l0) := ⟨q48_⟩; have n1_ : Aside0 (Kd.S k37 37 w45 w.heap.size (fun k_ => (w.heap.size ≤ k_) ∧ some k_ ≠ (.slice Ao43 t446.length co43 : Value).ownBlock ∧ some k_ ≠ (v451 : Value).ownBlock ∧ k_ ≠ gb430) u6 x6_2) := ⟨q54_⟩; have n2_ : Aside0 (Kd.V (Kd.int .u8) 5 w45 w.heap.size (fun k_ => (P0_ k_ ∨ w.heap.size ≤ k_) ∧ some k_ ≠ (u6 : Value).ownBlock ∧ some k_ ≠ (.slice Ao43 t446.length co43 : Value).ownBlock ∧ some k_ ≠ (v451 : Value).ownBlock ∧ k_ ≠ gb430) (.slice Ao41 x8_28.length co41) x8_28) := ⟨q49_⟩; have n3_ : Aside0 (Kd.R (Kd.int .u8) 5 w45 w.heap.size (fun k_ => (w.heap.size ≤ k_) ∧ some k_ ≠ (v451 : Value).ownBlock) (.slice Ao43 t446.length co43) t446) := ⟨q65_⟩; have n4_ : Aside0 (Kd.R (Kd.int .u8) 5 w45 w.heap.size (fun k_ => (w.heap.size ≤ k_) ∧ some k_ ≠ (.slice Ao43 t446.length co43 : Value).ownBlock) v451 t447) := ⟨q66_⟩; have n5_ : Aside0 (w45.heap[gb430]? = some (.cells #[.int .i64 t425, .string t431, .string x431002_19, .int .i64 x431003_28, .slice Ao43 t446.length co43] 37 (0, 0))) := ⟨q52_⟩; have n6_ : Aside0 (Below w.heap.size w w45) := ⟨(by rw [hw]; exact q2_)⟩; clear hw; clear HO_0; clear HO_6; clear HO_8; clear HO450; clear HO452; clear BK430; clear HB; have HO_0 := n0_; have HO_6 := n1_; have HO_8 := n2_; have HO450 := n3_; have HO452 := n4_; have BK430 := n5_; have HB := n6_; clear n0_ n1_ n2_ n3_ n4_ n5_ n6_; have hcz46_0 : w45.cell? ⟨gb430, 0, none⟩ = some (.int .i64 t425) := (blk_cell BK430.out 0).trans rfl; have hcz46_1 : w45.cell? ⟨gb430, 1, none⟩ = some (.string t431) := (blk_cell BK430.out 1).trans rfl; have hcz46_2 : w45.cell? ⟨gb430, 2, none⟩ = some (.string x431002_19) := (blk_cell BK430.out 2).trans rfl; have hcz46_3 : w45.cell? ⟨gb430, 3, none⟩ = some (.int .i64 x431003_28) := (blk_cell BK430.out 3).trans rfl; have hcz46_4 : w45.cell? ⟨gb430, 4, none⟩ = some (.slice Ao43 t446.length co43) := (blk_cell BK430.out 4).trans rfl; have hfz46_0 := blk_frozen BK430.out 0; have hfz46_1 := blk_frozen BK430.out 1; have hfz46_2 := blk_frozen BK430.out 2; have hfz46_3 := blk_frozen BK430.out 3; have hfz46_4 := blk_frozen BK430.out 4) | ((with_reducible refine gate_builtin (b := .append) (xs := #[.tmp 105, .tmp 107]) rfl ?_); (try (refine gate_guard (by rfl) ?_; dsimp only)); at_builtin; refine Kd.S_append k37 (w0 := w) w.heap.size rfl (.tmp 105) (.tmp 107) 32 37 (.agg #[(.int .i64 0), (.string ⟨#[]⟩), (.string ⟨#[]⟩), (.int .i64 0), (.slice none 0 0)]) 72 rfl Tryd.underlying32 info37 rfl q81_ (by omega) u6 x6_2 (⟨t425, t431, x431002_19, x431003_28, t446⟩ : S37) [.int .i64 t425, .string t431, .string x431002_19, .int .i64 x431003_28, .slice Ao43 t446.length co43] (fun k_ => (w.heap.size ≤ k_) ∧ some k_ ≠ (v451 : Value).ownBlock ∧ k_ ≠ gb430) (fun k_ => some k_ = (.slice Ao43 t446.length co43 : Value).ownBlock) rfl rfl ?aP (fun k_ hk_ => ((Kd.R_mono (ok' := fun k_ => ((fun k_ => (w.heap.size ≤ k_) ∧ some k_ ≠ (v451 : Value).ownBlock ∧ k_ ≠ gb430)) k_ ∧ some k_ ≠ (u6 : Value).ownBlock) (Kd.R_types (Kd.R_apart' (HO450.out) (Kd.S_typed HO_6.out) q81_) BK430.out q81_) (fun k_ hk => ⟨⟨hk.1.1.1, ⟨hk.1.1.2, hk.2⟩⟩, hk.1.2⟩))).1 k_ hk_.symm) ?aF ?aO ?aB ?aS ?aL ?_; (case aP => exact k37_mkM _ _ _ (⟨t425, t431, x431002_19, x431003_28, t446⟩ : S37) (Kd.R_mono (Kd.R_tight rfl (Kd.R_mono (ok' := fun k_ => ((fun k_ => (w.heap.size ≤ k_) ∧ some k_ ≠ (v451 : Value).ownBlock ∧ k_ ≠ gb430)) k_ ∧ some k_ ≠ (u6 : Value).ownBlock) (Kd.R_types (Kd.R_apart' (HO450.out) (Kd.S_typed HO_6.out) q81_) BK430.out q81_) (fun k_ hk => ⟨⟨hk.1.1.1, ⟨hk.1.1.2, hk.2⟩⟩, hk.1.2⟩))) (fun _ h_ => h_))); (case aB => exact q2_); (case aF => exact (fun k_ hk => ⟨(Nat.le_trans (below_size q2_) hk), Kd.fresh' (Kd.R_lt q68_) k_ hk, Kd.freshB (g := gb430) (o := .cells #[.int .i64 t425, .string t431, .string x431002_19, .int .i64 x431003_28, .slice Ao43 t446.length co43] 37 (0, 0)) q13_ k_ hk⟩)); (case aO => exact q80_); (case aS => exact (below_size q2_)); (case aL => have := LMc40.out; omega); intro v454 w47 ho hb hg hat; rw [← Ny453.out] at ho; have n0_ := Aside0.mk (Kd.V_afterv (ok := (fun k_ => (P0_ k_ ∨ w.heap.size ≤ k_) ∧ some k_ ≠ (.slice Ao43 t446.length co43 : Value).ownBlock ∧ some k_ ≠ (v451 : Value).ownBlock ∧ k_ ≠ gb430)) q76_ hg hat); have n1_ := Aside0.mk (Kd.V_afterv (ok := (fun k_ => (P0_ k_ ∨ w.heap.size ≤ k_) ∧ some k_ ≠ (.slice Ao43 t446.length co43 : Value).ownBlock ∧ some k_ ≠ (v451 : Value).ownBlock ∧ k_ ≠ gb430)) q77_ hg hat); have n2_ := Aside0.mk (blk_grown (g := gb430) (o := .cells #[.int .i64 t425, .string t431, .string x431002_19, .int .i64 x431003_28, .slice Ao43 t446.length co43] 37 (0, 0)) q13_ hg (Kd.S_away HO_6.out (fun _ hk => hk.2.2.2))); have n3_ := Aside0.mk (Kd.R_over' q68_ (Kd.S_typed q10_) q81_ hg); have n4_ := Aside0.mk (hb); have n5_ := Aside0.mk (ho); clear HO_0; clear HO_8; clear BK430; clear HO452; clear HB; clear HO_6; clear HO450; have HO_0 := n0_; have HO_8 := n1_; have BK430 := n2_; have HO452 := n3_; have HB := n4_; have HO455 := n5_; clear n0_ n1_ n2_ n3_ n4_ n5_; clear ho hb hg hat))
                      repeat (go_quiet (first | (go_at_call 41; (with_reducible refine (cambiumref01_TakeBytes.calls kj34 _ _ x8_28 t446 t447 t448 _ ?side1 ?side2 A38.out).mono ?_); (case side1 => repeat (first | exact (Kd.V_reads' HO_8.out).2.2 | (with_reducible refine Kd.C_alloc ?_ _) | (with_reducible refine Kd.C_drewN ?_ _) | (with_reducible refine Kd.C_drew ?_))); (case side2 => exact (Kd.V_reads' HO_8.out).2.1); rintro e w42 ⟨v449, v451, rfl, ho0, ho1, hb⟩; have n0_ := Aside0.mk (Kd.V_mono (Kd.V_told (Kd.V_told (Kd.V_old q14_ hb) (Kd.R_base ho0)) (Kd.R_base ho1)) (fun _ h_ => h_.1)); have n1_ := Aside0.mk (Kd.S_mono (Kd.S_told (Kd.S_told (Kd.S_old q10_ hb) (Kd.R_base ho0)) (Kd.R_base ho1)) (fun _ h_ => h_.1)); have n2_ := Aside0.mk (Kd.V_mono (Kd.V_told (Kd.V_told (Kd.V_old q57_ hb) (Kd.R_base ho0)) (Kd.R_base ho1)) (fun _ h_ => h_.1)); have n3_ := Aside0.mk (Kd.R_lower (Kd.R_newM (M := fun k_ => (w.heap.size ≤ k_)) ho0 (below_size q2_) (fun k_ h_ => h_)) (below_size q2_)); have n4_ := Aside0.mk (Kd.R_lower (Kd.R_newM (M := fun k_ => (w.heap.size ≤ k_)) ho1 (below_size q2_) (fun k_ h_ => h_)) (below_size q2_)); have n5_ := Aside0.mk (blk_below (g := gb430) (o := .cells #[.int .i64 t425, .string t431, .string x431002_19, .int .i64 x431003_28, .slice none 0 0] 37 (0, 0)) q13_ hb); have n6_ := Aside0.mk (below_step q2_ hb); clear HO_0; clear HO_6; clear HO_8; clear BK430; clear HB; have HO_0 := n0_; have HO_6 := n1_; have HO_8 := n2_; have HO450 := n3_; have HO452 := n4_; have BK430 := n5_; have HB := n6_; clear n0_ n1_ n2_ n3_ n4_ n5_ n6_; (try clear hb); (try clear hb2); (try clear hk); (try clear hi); (try clear ho0); (try clear ho1); obtain ⟨Ao43, co43, eo43⟩ := Kd.R_slice HO450.out; subst eo43; have hcz44_0 : w42.cell? ⟨gb430, 0, none⟩ = some (.int .i64 t425) := (blk_cell BK430.out 0).trans rfl; have hcz44_1 : w42.cell? ⟨gb430, 1, none⟩ = some (.string t431) := (blk_cell BK430.out 1).trans rfl; have hcz44_2 : w42.cell? ⟨gb430, 2, none⟩ = some (.string x431002_19) := (blk_cell BK430.out 2).trans rfl; have hcz44_3 : w42.cell? ⟨gb430, 3, none⟩ = some (.int .i64 x431003_28) := (blk_cell BK430.out 3).trans rfl; have hcz44_4 : w42.cell? ⟨gb430, 4, none⟩ = some (.slice none 0 0) := (blk_cell BK430.out 4).trans rfl; have hfz44_0 := blk_frozen BK430.out 0; have hfz44_1 := blk_frozen BK430.out 1; have hfz44_2 := blk_frozen BK430.out 2; have hfz44_3 := blk_frozen BK430.out 3; have hfz44_4 := blk_frozen BK430.out 4) | ((with_reducible refine gate_store (t := 35) (p := 100) rfl ?_); (try (rw [drewN_self w42]; generalize hq_ : World.drewN w42 _ = w42; have n0_ := Aside0.mk (Kd.V_at hq_ HO_0.out); have n1_ := Aside0.mk (Kd.S_at hq_ HO_6.out); have n2_ := Aside0.mk (Kd.V_at hq_ HO_8.out); have n3_ := Aside0.mk (Kd.R_at hq_ HO450.out); have n4_ := Aside0.mk (Kd.R_at hq_ HO452.out); have n5_ := Aside0.mk (blk_at hq_ BK430.out); have n6_ := Aside0.mk (below_at hq_ HB.out); clear hq_ HO_0 HO_6 HO_8 HO450 HO452 BK430 HB; have HO_0 := n0_; have HO_6 := n1_; have HO_8 := n2_; have HO450 := n3_; have HO452 := n4_; have BK430 := n5_; have HB := n6_; clear n0_ n1_ n2_ n3_ n4_ n5_ n6_)); refine store_event (t := 35) (p := 100) (v := ?vo_w45) (w1 := (w42.setCell ⟨gb430, 4, none⟩ (.slice Ao43 t446.length co43))) ?hg ?ho ?hn ?hr ?_; (case ho => rfl); (case hg => rfl); (case hn => rfl); (case hr => first | (go_simp; done) | (go_simp; rfl)); intro w45 hw; have n0_ : Aside0 (Kd.V (Kd.int .u8) 5 w45 w.heap.size (fun k_ => (P0_ k_ ∨ w.heap.size ≤ k_) ∧ some k_ ≠ (u6 : Value).ownBlock ∧ some k_ ≠ (.slice Ao43 t446.length co43 : Value).ownBlock ∧ some k_ ≠ (v451 : Value).ownBlock ∧ k_ ≠ gb430) (.slice A0 l0.length c0) l0) := ⟨q48_⟩; have n1_ : Aside0 (Kd.S k37 37 w45 w.heap.size (fun k_ => (w.heap.size ≤ k_) ∧ some k_ ≠ (.slice Ao43 t446.length co43 : Value).ownBlock ∧ some k_ ≠ (v451 : Value).ownBlock ∧ k_ ≠ gb430) u6 x6_2) := ⟨q54_⟩; have n2_ : Aside0 (Kd.V (Kd.int .u8) 5 w45 w.heap.size (fun k_ => (P0_ k_ ∨ w.heap.size ≤ k_) ∧ some k_ ≠ (u6 : Value).ownBlock ∧ some k_ ≠ (.slice Ao43 t446.length co43 : Value).ownBlock ∧ some k_ ≠ (v451 : Value).ownBlock ∧ k_ ≠ gb430) (.slice Ao41 x8_28.length co41) x8_28) := ⟨q49_⟩; have n3_ : Aside0 (Kd.R (Kd.int .u8) 5 w45 w.heap.size (fun k_ => (w.heap.size ≤ k_) ∧ some k_ ≠ (v451 : Value).ownBlock) (.slice Ao43 t446.length co43) t446) := ⟨q65_⟩; have n4_ : Aside0 (Kd.R (Kd.int .u8) 5 w45 w.heap.size (fun k_ => (w.heap.size ≤ k_) ∧ some k_ ≠ (.slice Ao43 t446.length co43 : Value).ownBlock) v451 t447) := ⟨q66_⟩; have n5_ : Aside0 (w45.heap[gb430]? = some (.cells #[.int .i64 t425, .string t431, .string x431002_19, .int .i64 x431003_28, .slice Ao43 t446.length co43] 37 (0, 0))) := ⟨q52_⟩; have n6_ : Aside0 (Below w.heap.size w w45) := ⟨(by rw [hw]; exact q2_)⟩; clear hw; clear HO_0; clear HO_6; clear HO_8; clear HO450; clear HO452; clear BK430; clear HB; have HO_0 := n0_; have HO_6 := n1_; have HO_8 := n2_; have HO450 := n3_; have HO452 := n4_; have BK430 := n5_; have HB := n6_; clear n0_ n1_ n2_ n3_ n4_ n5_ n6_; have hcz46_0 : w45.cell? ⟨gb430, 0, none⟩ = some (.int .i64 t425) := (blk_cell BK430.out 0).trans rfl; have hcz46_1 : w45.cell? ⟨gb430, 1, none⟩ = some (.string t431) := (blk_cell BK430.out 1).trans rfl; have hcz46_2 : w45.cell? ⟨gb430, 2, none⟩ = some (.string x431002_19) := (blk_cell BK430.out 2).trans rfl; have hcz46_3 : w45.cell? ⟨gb430, 3, none⟩ = some (.int .i64 x431003_28) := (blk_cell BK430.out 3).trans rfl; have hcz46_4 : w45.cell? ⟨gb430, 4, none⟩ = some (.slice Ao43 t446.length co43) := (blk_cell BK430.out 4).trans rfl; have hfz46_0 := blk_frozen BK430.out 0; have hfz46_1 := blk_frozen BK430.out 1; have hfz46_2 := blk_frozen BK430.out 2; have hfz46_3 := blk_frozen BK430.out 3; have hfz46_4 := blk_frozen BK430.out 4) | ((with_reducible refine gate_builtin (b := .append) (xs := #[.tmp 105, .tmp 107]) rfl ?_); (try (refine gate_guard (by rfl) ?_; dsimp only)); at_builtin; refine Kd.S_append k37 (w0 := w) w.heap.size rfl (.tmp 105) (.tmp 107) 32 37 (.agg #[(.int .i64 0), (.string ⟨#[]⟩), (.string ⟨#[]⟩), (.int .i64 0), (.slice none 0 0)]) 72 rfl Tryd.underlying32 info37 rfl q81_ (by omega) u6 x6_2 (⟨t425, t431, x431002_19, x431003_28, t446⟩ : S37) [.int .i64 t425, .string t431, .string x431002_19, .int .i64 x431003_28, .slice Ao43 t446.length co43] (fun k_ => (w.heap.size ≤ k_) ∧ some k_ ≠ (v451 : Value).ownBlock ∧ k_ ≠ gb430) (fun k_ => some k_ = (.slice Ao43 t446.length co43 : Value).ownBlock) rfl rfl ?aP (fun k_ hk_ => ((Kd.R_mono (ok' := fun k_ => ((fun k_ => (w.heap.size ≤ k_) ∧ some k_ ≠ (v451 : Value).ownBlock ∧ k_ ≠ gb430)) k_ ∧ some k_ ≠ (u6 : Value).ownBlock) (Kd.R_types (Kd.R_apart' (HO450.out) (Kd.S_typed HO_6.out) q81_) BK430.out q81_) (fun k_ hk => ⟨⟨hk.1.1.1, ⟨hk.1.1.2, hk.2⟩⟩, hk.1.2⟩))).1 k_ hk_.symm) ?aF ?aO ?aB ?aS ?aL ?_; (case aP => exact k37_mkM _ _ _ (⟨t425, t431, x431002_19, x431003_28, t446⟩ : S37) (Kd.R_mono (Kd.R_tight rfl (Kd.R_mono (ok' := fun k_ => ((fun k_ => (w.heap.size ≤ k_) ∧ some k_ ≠ (v451 : Value).ownBlock ∧ k_ ≠ gb430)) k_ ∧ some k_ ≠ (u6 : Value).ownBlock) (Kd.R_types (Kd.R_apart' (HO450.out) (Kd.S_typed HO_6.out) q81_) BK430.out q81_) (fun k_ hk => ⟨⟨hk.1.1.1, ⟨hk.1.1.2, hk.2⟩⟩, hk.1.2⟩))) (fun _ h_ => h_))); (case aB => exact q2_); (case aF => exact (fun k_ hk => ⟨(Nat.le_trans (below_size q2_) hk), Kd.fresh' (Kd.R_lt q68_) k_ hk, Kd.freshB (g := gb430) (o := .cells #[.int .i64 t425, .string t431, .string x431002_19, .int .i64 x431003_28, .slice Ao43 t446.length co43] 37 (0, 0)) q13_ k_ hk⟩)); (case aO => exact q80_); (case aS => exact (below_size q2_)); (case aL => have := LMc40.out; omega); intro v454 w47 ho hb hg hat; rw [← Ny453.out] at ho; have n0_ := Aside0.mk (Kd.V_afterv (ok := (fun k_ => (P0_ k_ ∨ w.heap.size ≤ k_) ∧ some k_ ≠ (.slice Ao43 t446.length co43 : Value).ownBlock ∧ some k_ ≠ (v451 : Value).ownBlock ∧ k_ ≠ gb430)) q76_ hg hat); have n1_ := Aside0.mk (Kd.V_afterv (ok := (fun k_ => (P0_ k_ ∨ w.heap.size ≤ k_) ∧ some k_ ≠ (.slice Ao43 t446.length co43 : Value).ownBlock ∧ some k_ ≠ (v451 : Value).ownBlock ∧ k_ ≠ gb430)) q77_ hg hat); have n2_ := Aside0.mk (blk_grown (g := gb430) (o := .cells #[.int .i64 t425, .string t431, .string x431002_19, .int .i64 x431003_28, .slice Ao43 t446.length co43] 37 (0, 0)) q13_ hg (Kd.S_away HO_6.out (fun _ hk => hk.2.2.2))); have n3_ := Aside0.mk (Kd.R_over' q68_ (Kd.S_typed q10_) q81_ hg); have n4_ := Aside0.mk (hb); have n5_ := Aside0.mk (ho); clear HO_0; clear HO_8; clear BK430; clear HO452; clear HB; clear HO_6; clear HO450; have HO_0 := n0_; have HO_8 := n1_; have BK430 := n2_; have HO452 := n3_; have HB := n4_; have HO455 := n5_; clear n0_ n1_ n2_ n3_ n4_ n5_; clear ho hb hg hat)); try go_wp2_with (first | (go_at_call 41; (with_reducible refine (cambiumref01_TakeBytes.calls kj34 _ _ x8_28 t446 t447 t448 _ ?side1 ?side2 A38.out).mono ?_); (case side1 => repeat (first | exact (Kd.V_reads' HO_8.out).2.2 | (with_reducible refine Kd.C_alloc ?_ _) | (with_reducible refine Kd.C_drewN ?_ _) | (with_reducible refine Kd.C_drew ?_))); (case side2 => exact (Kd.V_reads' HO_8.out).2.1); rintro e w42 ⟨v449, v451, rfl, ho0, ho1, hb⟩; have n0_ := Aside0.mk (Kd.V_mono (Kd.V_told (Kd.V_told (Kd.V_old q14_ hb) (Kd.R_base ho0)) (Kd.R_base ho1)) (fun _ h_ => h_.1)); have n1_ := Aside0.mk (Kd.S_mono (Kd.S_told (Kd.S_told (Kd.S_old q10_ hb) (Kd.R_base ho0)) (Kd.R_base ho1)) (fun _ h_ => h_.1)); have n2_ := Aside0.mk (Kd.V_mono (Kd.V_told (Kd.V_told (Kd.V_old q57_ hb) (Kd.R_base ho0)) (Kd.R_base ho1)) (fun _ h_ => h_.1)); have n3_ := Aside0.mk (Kd.R_lower (Kd.R_newM (M := fun k_ => (w.heap.size ≤ k_)) ho0 (below_size q2_) (fun k_ h_ => h_)) (below_size q2_)); have n4_ := Aside0.mk (Kd.R_lower (Kd.R_newM (M := fun k_ => (w.heap.size ≤ k_)) ho1 (below_size q2_) (fun k_ h_ => h_)) (below_size q2_)); have n5_ := Aside0.mk (blk_below (g := gb430) (o := .cells #[.int .i64 t425, .string t431, .string x431002_19, .int .i64 x431003_28, .slice none 0 0] 37 (0, 0)) q13_ hb); have n6_ := Aside0.mk (below_step q2_ hb); clear HO_0; clear HO_6; clear HO_8; clear BK430; clear HB; have HO_0 := n0_; have HO_6 := n1_; have HO_8 := n2_; have HO450 := n3_; have HO452 := n4_; have BK430 := n5_; have HB := n6_; clear n0_ n1_ n2_ n3_ n4_ n5_ n6_; (try clear hb); (try clear hb2); (try clear hk); (try clear hi); (try clear ho0); (try clear ho1); obtain ⟨Ao43, co43, eo43⟩ := Kd.R_slice HO450.out; subst eo43; have hcz44_0 : w42.cell? ⟨gb430, 0, none⟩ = some (.int .i64 t425) := (blk_cell BK430.out 0).trans rfl; have hcz44_1 : w42.cell? ⟨gb430, 1, none⟩ = some (.string t431) := (blk_cell BK430.out 1).trans rfl; have hcz44_2 : w42.cell? ⟨gb430, 2, none⟩ = some (.string x431002_19) := (blk_cell BK430.out 2).trans rfl; have hcz44_3 : w42.cell? ⟨gb430, 3, none⟩ = some (.int .i64 x431003_28) := (blk_cell BK430.out 3).trans rfl; have hcz44_4 : w42.cell? ⟨gb430, 4, none⟩ = some (.slice none 0 0) := (blk_cell BK430.out 4).trans rfl; have hfz44_0 := blk_frozen BK430.out 0; have hfz44_1 := blk_frozen BK430.out 1; have hfz44_2 := blk_frozen BK430.out 2; have hfz44_3 := blk_frozen BK430.out 3; have hfz44_4 := blk_frozen BK430.out 4) | ((with_reducible refine gate_store (t := 35) (p := 100) rfl ?_); (try (rw [drewN_self w42]; generalize hq_ : World.drewN w42 _ = w42; have n0_ := Aside0.mk (Kd.V_at hq_ HO_0.out); have n1_ := Aside0.mk (Kd.S_at hq_ HO_6.out); have n2_ := Aside0.mk (Kd.V_at hq_ HO_8.out); have n3_ := Aside0.mk (Kd.R_at hq_ HO450.out); have n4_ := Aside0.mk (Kd.R_at hq_ HO452.out); have n5_ := Aside0.mk (blk_at hq_ BK430.out); have n6_ := Aside0.mk (below_at hq_ HB.out); clear hq_ HO_0 HO_6 HO_8 HO450 HO452 BK430 HB; have HO_0 := n0_; have HO_6 := n1_; have HO_8 := n2_; have HO450 := n3_; have HO452 := n4_; have BK430 := n5_; have HB := n6_; clear n0_ n1_ n2_ n3_ n4_ n5_ n6_)); refine store_event (t := 35) (p := 100) (v := ?vo_w45) (w1 := (w42.setCell ⟨gb430, 4, none⟩ (.slice Ao43 t446.length co43))) ?hg ?ho ?hn ?hr ?_; (case ho => rfl); (case hg => rfl); (case hn => rfl); (case hr => first | (go_simp; done) | (go_simp; rfl)); intro w45 hw; have n0_ : Aside0 (Kd.V (Kd.int .u8) 5 w45 w.heap.size (fun k_ => (P0_ k_ ∨ w.heap.size ≤ k_) ∧ some k_ ≠ (u6 : Value).ownBlock ∧ some k_ ≠ (.slice Ao43 t446.length co43 : Value).ownBlock ∧ some k_ ≠ (v451 : Value).ownBlock ∧ k_ ≠ gb430) (.slice A0 l0.length c0) l0) := ⟨q48_⟩; have n1_ : Aside0 (Kd.S k37 37 w45 w.heap.size (fun k_ => (w.heap.size ≤ k_) ∧ some k_ ≠ (.slice Ao43 t446.length co43 : Value).ownBlock ∧ some k_ ≠ (v451 : Value).ownBlock ∧ k_ ≠ gb430) u6 x6_2) := ⟨q54_⟩; have n2_ : Aside0 (Kd.V (Kd.int .u8) 5 w45 w.heap.size (fun k_ => (P0_ k_ ∨ w.heap.size ≤ k_) ∧ some k_ ≠ (u6 : Value).ownBlock ∧ some k_ ≠ (.slice Ao43 t446.length co43 : Value).ownBlock ∧ some k_ ≠ (v451 : Value).ownBlock ∧ k_ ≠ gb430) (.slice Ao41 x8_28.length co41) x8_28) := ⟨q49_⟩; have n3_ : Aside0 (Kd.R (Kd.int .u8) 5 w45 w.heap.size (fun k_ => (w.heap.size ≤ k_) ∧ some k_ ≠ (v451 : Value).ownBlock) (.slice Ao43 t446.length co43) t446) := ⟨q65_⟩; have n4_ : Aside0 (Kd.R (Kd.int .u8) 5 w45 w.heap.size (fun k_ => (w.heap.size ≤ k_) ∧ some k_ ≠ (.slice Ao43 t446.length co43 : Value).ownBlock) v451 t447) := ⟨q66_⟩; have n5_ : Aside0 (w45.heap[gb430]? = some (.cells #[.int .i64 t425, .string t431, .string x431002_19, .int .i64 x431003_28, .slice Ao43 t446.length co43] 37 (0, 0))) := ⟨q52_⟩; have n6_ : Aside0 (Below w.heap.size w w45) := ⟨(by rw [hw]; exact q2_)⟩; clear hw; clear HO_0; clear HO_6; clear HO_8; clear HO450; clear HO452; clear BK430; clear HB; have HO_0 := n0_; have HO_6 := n1_; have HO_8 := n2_; have HO450 := n3_; have HO452 := n4_; have BK430 := n5_; have HB := n6_; clear n0_ n1_ n2_ n3_ n4_ n5_ n6_; have hcz46_0 : w45.cell? ⟨gb430, 0, none⟩ = some (.int .i64 t425) := (blk_cell BK430.out 0).trans rfl; have hcz46_1 : w45.cell? ⟨gb430, 1, none⟩ = some (.string t431) := (blk_cell BK430.out 1).trans rfl; have hcz46_2 : w45.cell? ⟨gb430, 2, none⟩ = some (.string x431002_19) := (blk_cell BK430.out 2).trans rfl; have hcz46_3 : w45.cell? ⟨gb430, 3, none⟩ = some (.int .i64 x431003_28) := (blk_cell BK430.out 3).trans rfl; have hcz46_4 : w45.cell? ⟨gb430, 4, none⟩ = some (.slice Ao43 t446.length co43) := (blk_cell BK430.out 4).trans rfl; have hfz46_0 := blk_frozen BK430.out 0; have hfz46_1 := blk_frozen BK430.out 1; have hfz46_2 := blk_frozen BK430.out 2; have hfz46_3 := blk_frozen BK430.out 3; have hfz46_4 := blk_frozen BK430.out 4) | ((with_reducible refine gate_builtin (b := .append) (xs := #[.tmp 105, .tmp 107]) rfl ?_); (try (refine gate_guard (by rfl) ?_; dsimp only)); at_builtin; refine Kd.S_append k37 (w0 := w) w.heap.size rfl (.tmp 105) (.tmp 107) 32 37 (.agg #[(.int .i64 0), (.string ⟨#[]⟩), (.string ⟨#[]⟩), (.int .i64 0), (.slice none 0 0)]) 72 rfl Tryd.underlying32 info37 rfl q81_ (by omega) u6 x6_2 (⟨t425, t431, x431002_19, x431003_28, t446⟩ : S37) [.int .i64 t425, .string t431, .string x431002_19, .int .i64 x431003_28, .slice Ao43 t446.length co43] (fun k_ => (w.heap.size ≤ k_) ∧ some k_ ≠ (v451 : Value).ownBlock ∧ k_ ≠ gb430) (fun k_ => some k_ = (.slice Ao43 t446.length co43 : Value).ownBlock) rfl rfl ?aP (fun k_ hk_ => ((Kd.R_mono (ok' := fun k_ => ((fun k_ => (w.heap.size ≤ k_) ∧ some k_ ≠ (v451 : Value).ownBlock ∧ k_ ≠ gb430)) k_ ∧ some k_ ≠ (u6 : Value).ownBlock) (Kd.R_types (Kd.R_apart' (HO450.out) (Kd.S_typed HO_6.out) q81_) BK430.out q81_) (fun k_ hk => ⟨⟨hk.1.1.1, ⟨hk.1.1.2, hk.2⟩⟩, hk.1.2⟩))).1 k_ hk_.symm) ?aF ?aO ?aB ?aS ?aL ?_; (case aP => exact k37_mkM _ _ _ (⟨t425, t431, x431002_19, x431003_28, t446⟩ : S37) (Kd.R_mono (Kd.R_tight rfl (Kd.R_mono (ok' := fun k_ => ((fun k_ => (w.heap.size ≤ k_) ∧ some k_ ≠ (v451 : Value).ownBlock ∧ k_ ≠ gb430)) k_ ∧ some k_ ≠ (u6 : Value).ownBlock) (Kd.R_types (Kd.R_apart' (HO450.out) (Kd.S_typed HO_6.out) q81_) BK430.out q81_) (fun k_ hk => ⟨⟨hk.1.1.1, ⟨hk.1.1.2, hk.2⟩⟩, hk.1.2⟩))) (fun _ h_ => h_))); (case aB => exact q2_); (case aF => exact (fun k_ hk => ⟨(Nat.le_trans (below_size q2_) hk), Kd.fresh' (Kd.R_lt q68_) k_ hk, Kd.freshB (g := gb430) (o := .cells #[.int .i64 t425, .string t431, .string x431002_19, .int .i64 x431003_28, .slice Ao43 t446.length co43] 37 (0, 0)) q13_ k_ hk⟩)); (case aO => exact q80_); (case aS => exact (below_size q2_)); (case aL => have := LMc40.out; omega); intro v454 w47 ho hb hg hat; rw [← Ny453.out] at ho; have n0_ := Aside0.mk (Kd.V_afterv (ok := (fun k_ => (P0_ k_ ∨ w.heap.size ≤ k_) ∧ some k_ ≠ (.slice Ao43 t446.length co43 : Value).ownBlock ∧ some k_ ≠ (v451 : Value).ownBlock ∧ k_ ≠ gb430)) q76_ hg hat); have n1_ := Aside0.mk (Kd.V_afterv (ok := (fun k_ => (P0_ k_ ∨ w.heap.size ≤ k_) ∧ some k_ ≠ (.slice Ao43 t446.length co43 : Value).ownBlock ∧ some k_ ≠ (v451 : Value).ownBlock ∧ k_ ≠ gb430)) q77_ hg hat); have n2_ := Aside0.mk (blk_grown (g := gb430) (o := .cells #[.int .i64 t425, .string t431, .string x431002_19, .int .i64 x431003_28, .slice Ao43 t446.length co43] 37 (0, 0)) q13_ hg (Kd.S_away HO_6.out (fun _ hk => hk.2.2.2))); have n3_ := Aside0.mk (Kd.R_over' q68_ (Kd.S_typed q10_) q81_ hg); have n4_ := Aside0.mk (hb); have n5_ := Aside0.mk (ho); clear HO_0; clear HO_8; clear BK430; clear HO452; clear HB; clear HO_6; clear HO450; have HO_0 := n0_; have HO_8 := n1_; have BK430 := n2_; have HO452 := n3_; have HB := n4_; have HO455 := n5_; clear n0_ n1_ n2_ n3_ n4_ n5_; clear ho hb hg hat)))
                      go_roundg kj34
                      case measure => have := HJ1.out; have := HK2.out; have := HJ10.out; have := HJ19.out; have := HJ25.out; have := HJ28.out; have := HJ34.out; omega
                      case rel => exact ⟨(t447), (y453), H', ⟨by have := HJ1.out; have := HK2.out; have := HJ10.out; have := HJ19.out; have := HJ25.out; have := HJ28.out; have := HJ34.out; omega⟩, ⟨q71_⟩, ⟨Kd.V_mono (Kd.R_V (by (with_reducible repeat (first | apply Kd.R_alloc | apply Kd.R_drewN | apply Kd.R_drew)); exact Kd.R_mono (Kd.R_apart' HO452.out (Kd.S_typed HO455.out) q81_) (fun _ hk => (⟨hk.1.1, hk.2⟩ : _ ∧ _)))) (fun k_ hk => by first | exact ⟨(.inr (hk.1)), hk.2⟩ | exact (.inr (hk)))⟩, ⟨by (with_reducible repeat (first | apply Kd.S_alloc | apply Kd.S_drewN | apply Kd.S_drew)); exact Kd.S_mono HO455.out (fun _ hk => hk.1)⟩, ⟨q2_⟩⟩
                     ·rw [if_neg c40] at H
                      exact absurd H (by simp)
                    ·rw [if_neg c39] at H
                     have c39b0 : (t448 == 0) = false := beq_eq_false_iff_ne.mpr c39
                     have c39b1 : (t448 != 0) = true := bne_iff_ne.mpr c39
                     simp only [Option.some.injEq, Prod.mk.injEq] at H
                     obtain ⟨rfl, rfl, rfl⟩ := H
                     obtain ⟨Ao48, co48, eo48⟩ := Kd.V_slice HO_8.out
                     subst eo48
                     go_wp2_with (first | (go_at_call 41; (with_reducible refine (cambiumref01_TakeBytes.calls kj34 _ _ x8_28 t446 t447 t448 _ ?side1 ?side2 A38.out).mono ?_); (case side1 => repeat (first | exact (Kd.V_reads' HO_8.out).2.2 | (with_reducible refine Kd.C_alloc ?_ _) | (with_reducible refine Kd.C_drewN ?_ _) | (with_reducible refine Kd.C_drew ?_))); (case side2 => exact (Kd.V_reads' HO_8.out).2.1); rintro e w49 ⟨v449, v451, rfl, ho0, ho1, hb⟩; have n0_ := Aside0.mk (Kd.V_mono (Kd.V_told (Kd.V_told (Kd.V_old q14_ hb) (Kd.R_base ho0)) (Kd.R_base ho1)) (fun _ h_ => h_.1)); have n1_ := Aside0.mk (Kd.S_mono (Kd.S_told (Kd.S_told (Kd.S_old q10_ hb) (Kd.R_base ho0)) (Kd.R_base ho1)) (fun _ h_ => h_.1)); have n2_ := Aside0.mk (Kd.V_mono (Kd.V_told (Kd.V_told (Kd.V_old q57_ hb) (Kd.R_base ho0)) (Kd.R_base ho1)) (fun _ h_ => h_.1)); have n3_ := Aside0.mk (Kd.R_lower (Kd.R_newM (M := fun k_ => (w.heap.size ≤ k_)) ho0 (below_size q2_) (fun k_ h_ => h_)) (below_size q2_)); have n4_ := Aside0.mk (Kd.R_lower (Kd.R_newM (M := fun k_ => (w.heap.size ≤ k_)) ho1 (below_size q2_) (fun k_ h_ => h_)) (below_size q2_)); have n5_ := Aside0.mk (blk_below (g := gb430) (o := .cells #[.int .i64 t425, .string t431, .string x431002_19, .int .i64 x431003_28, .slice none 0 0] 37 (0, 0)) q13_ hb); have n6_ := Aside0.mk (below_step q2_ hb); clear HO_0; clear HO_6; clear HO_8; clear BK430; clear HB; have HO_0 := n0_; have HO_6 := n1_; have HO_8 := n2_; have HO450 := n3_; have HO452 := n4_; have BK430 := n5_; have HB := n6_; clear n0_ n1_ n2_ n3_ n4_ n5_ n6_; (try clear hb); (try clear hb2); (try clear hk); (try clear hi); (try clear ho0); (try clear ho1); obtain ⟨Ao50, co50, eo50⟩ := Kd.R_slice HO450.out; subst eo50; have hcz51_0 : w49.cell? ⟨gb430, 0, none⟩ = some (.int .i64 t425) := (blk_cell BK430.out 0).trans rfl; have hcz51_1 : w49.cell? ⟨gb430, 1, none⟩ = some (.string t431) := (blk_cell BK430.out 1).trans rfl; have hcz51_2 : w49.cell? ⟨gb430, 2, none⟩ = some (.string x431002_19) := (blk_cell BK430.out 2).trans rfl; have hcz51_3 : w49.cell? ⟨gb430, 3, none⟩ = some (.int .i64 x431003_28) := (blk_cell BK430.out 3).trans rfl; have hcz51_4 : w49.cell? ⟨gb430, 4, none⟩ = some (.slice none 0 0) := (blk_cell BK430.out 4).trans rfl; have hfz51_0 := blk_frozen BK430.out 0; have hfz51_1 := blk_frozen BK430.out 1; have hfz51_2 := blk_frozen BK430.out 2; have hfz51_3 := blk_frozen BK430.out 3; have hfz51_4 := blk_frozen BK430.out 4))
                     repeat (go_quiet (first | (go_at_call 41; (with_reducible refine (cambiumref01_TakeBytes.calls kj34 _ _ x8_28 t446 t447 t448 _ ?side1 ?side2 A38.out).mono ?_); (case side1 => repeat (first | exact (Kd.V_reads' HO_8.out).2.2 | (with_reducible refine Kd.C_alloc ?_ _) | (with_reducible refine Kd.C_drewN ?_ _) | (with_reducible refine Kd.C_drew ?_))); (case side2 => exact (Kd.V_reads' HO_8.out).2.1); rintro e w49 ⟨v449, v451, rfl, ho0, ho1, hb⟩; have n0_ := Aside0.mk (Kd.V_mono (Kd.V_told (Kd.V_told (Kd.V_old q14_ hb) (Kd.R_base ho0)) (Kd.R_base ho1)) (fun _ h_ => h_.1)); have n1_ := Aside0.mk (Kd.S_mono (Kd.S_told (Kd.S_told (Kd.S_old q10_ hb) (Kd.R_base ho0)) (Kd.R_base ho1)) (fun _ h_ => h_.1)); have n2_ := Aside0.mk (Kd.V_mono (Kd.V_told (Kd.V_told (Kd.V_old q57_ hb) (Kd.R_base ho0)) (Kd.R_base ho1)) (fun _ h_ => h_.1)); have n3_ := Aside0.mk (Kd.R_lower (Kd.R_newM (M := fun k_ => (w.heap.size ≤ k_)) ho0 (below_size q2_) (fun k_ h_ => h_)) (below_size q2_)); have n4_ := Aside0.mk (Kd.R_lower (Kd.R_newM (M := fun k_ => (w.heap.size ≤ k_)) ho1 (below_size q2_) (fun k_ h_ => h_)) (below_size q2_)); have n5_ := Aside0.mk (blk_below (g := gb430) (o := .cells #[.int .i64 t425, .string t431, .string x431002_19, .int .i64 x431003_28, .slice none 0 0] 37 (0, 0)) q13_ hb); have n6_ := Aside0.mk (below_step q2_ hb); clear HO_0; clear HO_6; clear HO_8; clear BK430; clear HB; have HO_0 := n0_; have HO_6 := n1_; have HO_8 := n2_; have HO450 := n3_; have HO452 := n4_; have BK430 := n5_; have HB := n6_; clear n0_ n1_ n2_ n3_ n4_ n5_ n6_; (try clear hb); (try clear hb2); (try clear hk); (try clear hi); (try clear ho0); (try clear ho1); obtain ⟨Ao50, co50, eo50⟩ := Kd.R_slice HO450.out; subst eo50; have hcz51_0 : w49.cell? ⟨gb430, 0, none⟩ = some (.int .i64 t425) := (blk_cell BK430.out 0).trans rfl; have hcz51_1 : w49.cell? ⟨gb430, 1, none⟩ = some (.string t431) := (blk_cell BK430.out 1).trans rfl; have hcz51_2 : w49.cell? ⟨gb430, 2, none⟩ = some (.string x431002_19) := (blk_cell BK430.out 2).trans rfl; have hcz51_3 : w49.cell? ⟨gb430, 3, none⟩ = some (.int .i64 x431003_28) := (blk_cell BK430.out 3).trans rfl; have hcz51_4 : w49.cell? ⟨gb430, 4, none⟩ = some (.slice none 0 0) := (blk_cell BK430.out 4).trans rfl; have hfz51_0 := blk_frozen BK430.out 0; have hfz51_1 := blk_frozen BK430.out 1; have hfz51_2 := blk_frozen BK430.out 2; have hfz51_3 := blk_frozen BK430.out 3; have hfz51_4 := blk_frozen BK430.out 4)); try go_wp2_with (first | (go_at_call 41; (with_reducible refine (cambiumref01_TakeBytes.calls kj34 _ _ x8_28 t446 t447 t448 _ ?side1 ?side2 A38.out).mono ?_); (case side1 => repeat (first | exact (Kd.V_reads' HO_8.out).2.2 | (with_reducible refine Kd.C_alloc ?_ _) | (with_reducible refine Kd.C_drewN ?_ _) | (with_reducible refine Kd.C_drew ?_))); (case side2 => exact (Kd.V_reads' HO_8.out).2.1); rintro e w49 ⟨v449, v451, rfl, ho0, ho1, hb⟩; have n0_ := Aside0.mk (Kd.V_mono (Kd.V_told (Kd.V_told (Kd.V_old q14_ hb) (Kd.R_base ho0)) (Kd.R_base ho1)) (fun _ h_ => h_.1)); have n1_ := Aside0.mk (Kd.S_mono (Kd.S_told (Kd.S_told (Kd.S_old q10_ hb) (Kd.R_base ho0)) (Kd.R_base ho1)) (fun _ h_ => h_.1)); have n2_ := Aside0.mk (Kd.V_mono (Kd.V_told (Kd.V_told (Kd.V_old q57_ hb) (Kd.R_base ho0)) (Kd.R_base ho1)) (fun _ h_ => h_.1)); have n3_ := Aside0.mk (Kd.R_lower (Kd.R_newM (M := fun k_ => (w.heap.size ≤ k_)) ho0 (below_size q2_) (fun k_ h_ => h_)) (below_size q2_)); have n4_ := Aside0.mk (Kd.R_lower (Kd.R_newM (M := fun k_ => (w.heap.size ≤ k_)) ho1 (below_size q2_) (fun k_ h_ => h_)) (below_size q2_)); have n5_ := Aside0.mk (blk_below (g := gb430) (o := .cells #[.int .i64 t425, .string t431, .string x431002_19, .int .i64 x431003_28, .slice none 0 0] 37 (0, 0)) q13_ hb); have n6_ := Aside0.mk (below_step q2_ hb); clear HO_0; clear HO_6; clear HO_8; clear BK430; clear HB; have HO_0 := n0_; have HO_6 := n1_; have HO_8 := n2_; have HO450 := n3_; have HO452 := n4_; have BK430 := n5_; have HB := n6_; clear n0_ n1_ n2_ n3_ n4_ n5_ n6_; (try clear hb); (try clear hb2); (try clear hk); (try clear hi); (try clear ho0); (try clear ho1); obtain ⟨Ao50, co50, eo50⟩ := Kd.R_slice HO450.out; subst eo50; have hcz51_0 : w49.cell? ⟨gb430, 0, none⟩ = some (.int .i64 t425) := (blk_cell BK430.out 0).trans rfl; have hcz51_1 : w49.cell? ⟨gb430, 1, none⟩ = some (.string t431) := (blk_cell BK430.out 1).trans rfl; have hcz51_2 : w49.cell? ⟨gb430, 2, none⟩ = some (.string x431002_19) := (blk_cell BK430.out 2).trans rfl; have hcz51_3 : w49.cell? ⟨gb430, 3, none⟩ = some (.int .i64 x431003_28) := (blk_cell BK430.out 3).trans rfl; have hcz51_4 : w49.cell? ⟨gb430, 4, none⟩ = some (.slice none 0 0) := (blk_cell BK430.out 4).trans rfl; have hfz51_0 := blk_frozen BK430.out 0; have hfz51_1 := blk_frozen BK430.out 1; have hfz51_2 := blk_frozen BK430.out 2; have hfz51_3 := blk_frozen BK430.out 3; have hfz51_4 := blk_frozen BK430.out 4)))
                     go_ret3
                     exact ⟨_, by first | rfl | (simp [errW_none, errW_some] <;> rfl) | (simp [*, errW_none, errW_some] <;> rfl), by first | exact Kd.S_nil _ _ _ _ _ | exact Kd.N_nil _ _ _ _ _ | exact Kd.V_nil _ _ _ _ _ | exact Kd.Q_nil _ _ _ _ _ | exact Kd.R_nil _ _ _ _ _, by repeat (first | (with_reducible first | exact HB.out | apply below_alloc | apply pw_below_drewN | apply below_drew1 | refine below_set ?_ GE430.out) | exact HB.out)⟩
                   ·replace c37 := Bool.eq_false_iff.mpr c37
                    subst c37
                    have H1 : (if x12_28 = 0 then (if x6_2.length < 1954687338268 then (cambiumref19_Take.l0 kj34 l0 x8_28 (x6_2 ++ [(⟨t425, t431, x431002_19, x431003_28, ([] : List Int)⟩ : S37)])) else (none)) else (some (([] : List (S37)), false, 26))) = some (r1, r2, r3) := by rw [if_neg (show ¬ (false = true) by decide)] at H; exact H
                    clear H
                    have H := H1
                    clear H1
                    by_cases c52 : x12_28 = 0
                    ·rw [if_pos c52] at H
                     have c52b0 : (x12_28 == 0) = true := beq_iff_eq.mpr c52
                     have c52b1 : (x12_28 != 0) = false := bne_eq_false_iff_eq.mpr c52
                     clear c52
                     by_cases c53 : x6_2.length < 1954687338268
                     ·rw [if_pos c53] at H
                      have LMc53 := Aside0.mk c53
                      clear c53
                      obtain ⟨y456, hy456⟩ : ∃ y_ : List (S37), y_ = (x6_2 ++ [(⟨t425, t431, x431002_19, x431003_28, ([] : List Int)⟩ : S37)]) := ⟨_, rfl⟩
                      replace H : (cambiumref19_Take.l0 kj34 l0 x8_28 y456) = some (r1, r2, r3) := by first | (rw [hy456]; with_reducible exact H) | (have H2_ := (Option.bind_some _ _).symm.trans H; rw [hy456]; with_reducible exact H2_) | (have H2_ := (Option.bind_some _ _).symm.trans H; with_reducible exact H2_) | with_reducible exact H | (rw [hy456]; exact H) | exact H
                      have Ny456 := Aside0.mk hy456
                      clear hy456
                      have H' := Aside0.mk H
                      clear H
                      have hcz54_0 : wc.cell? ⟨gb430, 0, none⟩ = some (.int .i64 t425) := (blk_cell BK430.out 0).trans rfl
                      have hcz54_1 : wc.cell? ⟨gb430, 1, none⟩ = some (.string t431) := (blk_cell BK430.out 1).trans rfl
                      have hcz54_2 : wc.cell? ⟨gb430, 2, none⟩ = some (.string x431002_19) := (blk_cell BK430.out 2).trans rfl
                      have hcz54_3 : wc.cell? ⟨gb430, 3, none⟩ = some (.int .i64 x431003_28) := (blk_cell BK430.out 3).trans rfl
                      have hcz54_4 : wc.cell? ⟨gb430, 4, none⟩ = some (.slice none 0 0) := (blk_cell BK430.out 4).trans rfl
                      have hfz54_0 := blk_frozen BK430.out 0
                      have hfz54_1 := blk_frozen BK430.out 1
                      have hfz54_2 := blk_frozen BK430.out 2
                      have hfz54_3 := blk_frozen BK430.out 3
                      have hfz54_4 := blk_frozen BK430.out 4
                      go_wp2_with (first | ((with_reducible refine gate_builtin (b := .append) (xs := #[.tmp 105, .tmp 107]) rfl ?_); (try (refine gate_guard (by rfl) ?_; dsimp only)); at_builtin; refine Kd.S_append k37 (w0 := w) w.heap.size rfl (.tmp 105) (.tmp 107) 32 37 (.agg #[(.int .i64 0), (.string ⟨#[]⟩), (.string ⟨#[]⟩), (.int .i64 0), (.slice none 0 0)]) 72 rfl Tryd.underlying32 info37 rfl q81_ (by omega) u6 x6_2 (⟨t425, t431, x431002_19, x431003_28, ([] : List Int)⟩ : S37) [.int .i64 t425, .string t431, .string x431002_19, .int .i64 x431003_28, .slice none 0 0] (fun k_ => (w.heap.size ≤ k_) ∧ k_ ≠ gb430) (fun _ => False) rfl rfl ?aP (fun k_ hk_ => hk_.elim) ?aF ?aO ?aB ?aS ?aL ?_; (case aP => exact k37_mkM _ _ _ (⟨t425, t431, x431002_19, x431003_28, ([] : List Int)⟩ : S37) (Kd.R_nil _ _ _ _ _)); (case aB => exact q2_); (case aF => exact (fun k_ hk => ⟨(Nat.le_trans (below_size q2_) hk), Kd.freshB (g := gb430) (o := .cells #[.int .i64 t425, .string t431, .string x431002_19, .int .i64 x431003_28, .slice none 0 0] 37 (0, 0)) q13_ k_ hk⟩)); (case aO => exact (by (with_reducible repeat (first | apply Kd.S_alloc | apply Kd.S_drewN | apply Kd.S_drew)); exact Kd.S_mono HO_6.out (fun k_ hk => ⟨⟨hk.1, hk.2⟩, fun e_ => e_⟩))); (case aS => exact (below_size q2_)); (case aL => have := LMc53.out; omega); intro v457 w55 ho hb hg hat; rw [← Ny456.out] at ho; have n0_ := Aside0.mk (Kd.V_afterv (ok := (fun k_ => (P0_ k_ ∨ w.heap.size ≤ k_) ∧ k_ ≠ gb430)) q60_ hg hat); have n1_ := Aside0.mk (Kd.V_afterv (ok := (fun k_ => (P0_ k_ ∨ w.heap.size ≤ k_) ∧ k_ ≠ gb430)) (by (with_reducible repeat (first | apply Kd.V_alloc | apply Kd.V_drewN | apply Kd.V_drew)); exact Kd.V_mono HO_8.out (fun _ hk => ⟨⟨hk.1, hk.2.2⟩, hk.2.1⟩)) hg hat); have n2_ := Aside0.mk (blk_grown (g := gb430) (o := .cells #[.int .i64 t425, .string t431, .string x431002_19, .int .i64 x431003_28, .slice none 0 0] 37 (0, 0)) q13_ hg (Kd.S_away HO_6.out (fun _ hk => hk.2))); have n3_ := Aside0.mk (hb); have n4_ := Aside0.mk (ho); clear HO_0; clear HO_8; clear BK430; clear HB; clear HO_6; have HO_0 := n0_; have HO_8 := n1_; have BK430 := n2_; have HB := n3_; have HO458 := n4_; clear n0_ n1_ n2_ n3_ n4_; clear ho hb hg hat))
                      repeat (go_quiet (first | ((with_reducible refine gate_builtin (b := .append) (xs := #[.tmp 105, .tmp 107]) rfl ?_); (try (refine gate_guard (by rfl) ?_; dsimp only)); at_builtin; refine Kd.S_append k37 (w0 := w) w.heap.size rfl (.tmp 105) (.tmp 107) 32 37 (.agg #[(.int .i64 0), (.string ⟨#[]⟩), (.string ⟨#[]⟩), (.int .i64 0), (.slice none 0 0)]) 72 rfl Tryd.underlying32 info37 rfl q81_ (by omega) u6 x6_2 (⟨t425, t431, x431002_19, x431003_28, ([] : List Int)⟩ : S37) [.int .i64 t425, .string t431, .string x431002_19, .int .i64 x431003_28, .slice none 0 0] (fun k_ => (w.heap.size ≤ k_) ∧ k_ ≠ gb430) (fun _ => False) rfl rfl ?aP (fun k_ hk_ => hk_.elim) ?aF ?aO ?aB ?aS ?aL ?_; (case aP => exact k37_mkM _ _ _ (⟨t425, t431, x431002_19, x431003_28, ([] : List Int)⟩ : S37) (Kd.R_nil _ _ _ _ _)); (case aB => exact q2_); (case aF => exact (fun k_ hk => ⟨(Nat.le_trans (below_size q2_) hk), Kd.freshB (g := gb430) (o := .cells #[.int .i64 t425, .string t431, .string x431002_19, .int .i64 x431003_28, .slice none 0 0] 37 (0, 0)) q13_ k_ hk⟩)); (case aO => exact (by (with_reducible repeat (first | apply Kd.S_alloc | apply Kd.S_drewN | apply Kd.S_drew)); exact Kd.S_mono HO_6.out (fun k_ hk => ⟨⟨hk.1, hk.2⟩, fun e_ => e_⟩))); (case aS => exact (below_size q2_)); (case aL => have := LMc53.out; omega); intro v457 w55 ho hb hg hat; rw [← Ny456.out] at ho; have n0_ := Aside0.mk (Kd.V_afterv (ok := (fun k_ => (P0_ k_ ∨ w.heap.size ≤ k_) ∧ k_ ≠ gb430)) q60_ hg hat); have n1_ := Aside0.mk (Kd.V_afterv (ok := (fun k_ => (P0_ k_ ∨ w.heap.size ≤ k_) ∧ k_ ≠ gb430)) (by (with_reducible repeat (first | apply Kd.V_alloc | apply Kd.V_drewN | apply Kd.V_drew)); exact Kd.V_mono HO_8.out (fun _ hk => ⟨⟨hk.1, hk.2.2⟩, hk.2.1⟩)) hg hat); have n2_ := Aside0.mk (blk_grown (g := gb430) (o := .cells #[.int .i64 t425, .string t431, .string x431002_19, .int .i64 x431003_28, .slice none 0 0] 37 (0, 0)) q13_ hg (Kd.S_away HO_6.out (fun _ hk => hk.2))); have n3_ := Aside0.mk (hb); have n4_ := Aside0.mk (ho); clear HO_0; clear HO_8; clear BK430; clear HB; clear HO_6; have HO_0 := n0_; have HO_8 := n1_; have BK430 := n2_; have HB := n3_; have HO458 := n4_; clear n0_ n1_ n2_ n3_ n4_; clear ho hb hg hat)); try go_wp2_with (first | ((with_reducible refine gate_builtin (b := .append) (xs := #[.tmp 105, .tmp 107]) rfl ?_); (try (refine gate_guard (by rfl) ?_; dsimp only)); at_builtin; refine Kd.S_append k37 (w0 := w) w.heap.size rfl (.tmp 105) (.tmp 107) 32 37 (.agg #[(.int .i64 0), (.string ⟨#[]⟩), (.string ⟨#[]⟩), (.int .i64 0), (.slice none 0 0)]) 72 rfl Tryd.underlying32 info37 rfl q81_ (by omega) u6 x6_2 (⟨t425, t431, x431002_19, x431003_28, ([] : List Int)⟩ : S37) [.int .i64 t425, .string t431, .string x431002_19, .int .i64 x431003_28, .slice none 0 0] (fun k_ => (w.heap.size ≤ k_) ∧ k_ ≠ gb430) (fun _ => False) rfl rfl ?aP (fun k_ hk_ => hk_.elim) ?aF ?aO ?aB ?aS ?aL ?_; (case aP => exact k37_mkM _ _ _ (⟨t425, t431, x431002_19, x431003_28, ([] : List Int)⟩ : S37) (Kd.R_nil _ _ _ _ _)); (case aB => exact q2_); (case aF => exact (fun k_ hk => ⟨(Nat.le_trans (below_size q2_) hk), Kd.freshB (g := gb430) (o := .cells #[.int .i64 t425, .string t431, .string x431002_19, .int .i64 x431003_28, .slice none 0 0] 37 (0, 0)) q13_ k_ hk⟩)); (case aO => exact (by (with_reducible repeat (first | apply Kd.S_alloc | apply Kd.S_drewN | apply Kd.S_drew)); exact Kd.S_mono HO_6.out (fun k_ hk => ⟨⟨hk.1, hk.2⟩, fun e_ => e_⟩))); (case aS => exact (below_size q2_)); (case aL => have := LMc53.out; omega); intro v457 w55 ho hb hg hat; rw [← Ny456.out] at ho; have n0_ := Aside0.mk (Kd.V_afterv (ok := (fun k_ => (P0_ k_ ∨ w.heap.size ≤ k_) ∧ k_ ≠ gb430)) q60_ hg hat); have n1_ := Aside0.mk (Kd.V_afterv (ok := (fun k_ => (P0_ k_ ∨ w.heap.size ≤ k_) ∧ k_ ≠ gb430)) (by (with_reducible repeat (first | apply Kd.V_alloc | apply Kd.V_drewN | apply Kd.V_drew)); exact Kd.V_mono HO_8.out (fun _ hk => ⟨⟨hk.1, hk.2.2⟩, hk.2.1⟩)) hg hat); have n2_ := Aside0.mk (blk_grown (g := gb430) (o := .cells #[.int .i64 t425, .string t431, .string x431002_19, .int .i64 x431003_28, .slice none 0 0] 37 (0, 0)) q13_ hg (Kd.S_away HO_6.out (fun _ hk => hk.2))); have n3_ := Aside0.mk (hb); have n4_ := Aside0.mk (ho); clear HO_0; clear HO_8; clear BK430; clear HB; clear HO_6; have HO_0 := n0_; have HO_8 := n1_; have BK430 := n2_; have HB := n3_; have HO458 := n4_; clear n0_ n1_ n2_ n3_ n4_; clear ho hb hg hat)))
                      go_roundg kj34
                      case measure => have := HJ1.out; have := HK2.out; have := HJ10.out; have := HJ19.out; have := HJ25.out; have := HJ28.out; have := HJ34.out; omega
                      case rel => exact ⟨(x8_28), (y456), H', ⟨by have := HJ1.out; have := HK2.out; have := HJ10.out; have := HJ19.out; have := HJ25.out; have := HJ28.out; have := HJ34.out; omega⟩, ⟨q71_⟩, ⟨by (with_reducible repeat (first | apply Kd.V_alloc | apply Kd.V_drewN | apply Kd.V_drew)); exact Kd.V_mono HO_8.out (fun _ hk => ⟨hk.1.1, hk.2⟩)⟩, ⟨by (with_reducible repeat (first | apply Kd.S_alloc | apply Kd.S_drewN | apply Kd.S_drew)); exact Kd.S_mono HO458.out (fun _ hk => hk.1)⟩, ⟨q2_⟩⟩
                     ·rw [if_neg c53] at H
                      exact absurd H (by simp)
                    ·rw [if_neg c52] at H
                     have c52b0 : (x12_28 == 0) = false := beq_eq_false_iff_ne.mpr c52
                     have c52b1 : (x12_28 != 0) = true := bne_iff_ne.mpr c52
                     simp only [Option.some.injEq, Prod.mk.injEq] at H
                     obtain ⟨rfl, rfl, rfl⟩ := H
                     go_wp2
                     repeat (go_quiet (fail); try go_wp2)
                     go_ret3
                     exact ⟨_, by first | rfl | (simp [errW_none, errW_some] <;> rfl) | (simp [*, errW_none, errW_some] <;> rfl), by first | exact Kd.S_nil _ _ _ _ _ | exact Kd.N_nil _ _ _ _ _ | exact Kd.V_nil _ _ _ _ _ | exact Kd.Q_nil _ _ _ _ _ | exact Kd.R_nil _ _ _ _ _, by repeat (first | (with_reducible first | exact HB.out | apply below_alloc | apply pw_below_drewN | apply below_drew1 | refine below_set ?_ GE430.out) | exact HB.out)⟩
        ·rw [if_neg c8] at H
         have c8b0 : decide (0 < (x5_2.length : Int)) = false := decide_eq_false c8
         have c8b1 : decide (0 < x5_2.length) = false := decide_eq_false (by omega)
         clear c8
         by_cases c56 : 2 < (l0.length : Int)
         ·rw [if_pos c56] at H
          have c56b0 : decide (2 < (l0.length : Int)) = true := decide_eq_true c56
          have c56b1 : decide (2 < l0.length) = true := decide_eq_true (by omega)
          clear c56
          replace H := Option.bind_eq_some_iff.mp H
          obtain ⟨⟨t420, t421⟩, A570, H⟩ := H
          replace H : (if t421 = 0 then (if (strOfNums t420).toList = (strOfNums l0).toList then (some (x6_2, ((rd l0 2) == 1), 0)) else (some (([] : List (S37)), false, 26))) else (some (([] : List (S37)), false, 26))) = some (r1, r2, r3) := H
          have A57 := Aside0.mk A570
          clear A570
          by_cases c58 : t421 = 0
          ·rw [if_pos c58] at H
           have c58b0 : (t421 == 0) = true := beq_iff_eq.mpr c58
           have c58b1 : (t421 != 0) = false := bne_eq_false_iff_eq.mpr c58
           clear c58
           by_cases c59 : (strOfNums t420).toList = (strOfNums l0).toList
           ·rw [if_pos c59] at H
            have c59b0 : ((strOfNums t420).toList == (strOfNums l0).toList) = true := beq_iff_eq.mpr c59
            have c59b1 : ((strOfNums t420).toList != (strOfNums l0).toList) = false := bne_eq_false_iff_eq.mpr c59
            clear c59
            simp only [Option.some.injEq, Prod.mk.injEq] at H
            obtain ⟨rfl, rfl, rfl⟩ := H
            obtain ⟨Ao60, co60, eo60⟩ := Kd.V_slice HO_5.out
            subst eo60
            have p419 : 0 ≤ (2 : Int) := (by omega)
            have q419 : 2 < (l0.length : Int) := of_decide_eq_true q7_
            obtain ⟨ad419, e419, hx419_0⟩ := Kd.at_int (Kd.V_reads' HO_0.out).2.2 2 p419 q419
            cases e419
            (try simp only [show (2 : Int).toNat = 2 from rfl, Nat.reduceMul, Nat.reduceEqDiff, Go.Addr.add, ↓reduceIte] at hx419_0)
            have qi419 : (2 < l0.length) = True := eq_true (by omega)
            (try rw [show ((2 : Int)).toNat = 2 from rfl] at hx419_0)
            replace p419 := eq_true p419
            replace q419 := eq_true q419
            obtain ⟨Ao61, co61, eo61⟩ := Kd.S_slice HO_6.out
            subst eo61
            go_wp2_with (first | (go_at_call 20; (with_reducible refine (cambiumref19_Put.calls k2 _ _ x6_2 ((rd l0 2) == 1) t420 t421 _ ?side1 ?side2 A57.out).mono ?_); (case side1 => repeat (first | exact (Kd.S_reads' HO_6.out).2.2 | (with_reducible refine Kd.C_alloc ?_ _) | (with_reducible refine Kd.C_drewN ?_ _) | (with_reducible refine Kd.C_drew ?_))); (case side2 => exact (Kd.S_reads' HO_6.out).2.1); rintro e w62 ⟨v422, rfl, ho0, hb⟩; have n0_ := Aside0.mk (Kd.V_elder' q14_ (Kd.R_base ho0) hb); have n1_ := Aside0.mk (Kd.V_elder' q36_ (Kd.R_base ho0) hb); have n2_ := Aside0.mk (Kd.S_elder' q10_ (Kd.R_base ho0) hb); have n3_ := Aside0.mk (Kd.R_lower (Kd.R_newM (M := fun k_ => (w.heap.size ≤ k_)) ho0 (below_size q0_) (fun k_ h_ => h_)) (below_size q0_)); have n4_ := Aside0.mk (below_step q0_ hb); clear HO_0; clear HO_5; clear HO_6; clear HB; have HO_0 := n0_; have HO_5 := n1_; have HO_6 := n2_; have HO423 := n3_; have HB := n4_; clear n0_ n1_ n2_ n3_ n4_; (try clear hb); (try clear hb2); (try clear hk); (try clear hi); (try clear ho0); (first | (have hcv63 := own_string (P := Tryd.prog) Tryd.underlying35 Tryd.underlying5 Tryd.underlying9 (Kd.own_of_R HO423.out); have hcv63n := fun n_ : Nat => own_string (P := Tryd.prog) Tryd.underlying35 Tryd.underlying5 Tryd.underlying9 (Kd.own_of_R (Kd.R_drewN HO423.out n_))) | (have hcv63 := fun c_ : Nat => Kd.C_string (c := c_) (P := Tryd.prog) Tryd.underlying35 Tryd.underlying5 Tryd.underlying9 (Kd.V_reads' HO423.out).2.2; have hcv63n := fun (c_ n_ : Nat) => Kd.C_string (c := c_) (P := Tryd.prog) Tryd.underlying35 Tryd.underlying5 Tryd.underlying9 (Kd.C_drewN (Kd.V_reads' HO423.out).2.2 n_)) | (have hcv63 := Own.V_string (P := Tryd.prog) Tryd.underlying35 Tryd.underlying5 Tryd.underlying9 HO423.out; have hcv63n := fun (n_ : Nat) => Own.V_string (P := Tryd.prog) Tryd.underlying35 Tryd.underlying5 Tryd.underlying9 (Kd.V_drewN HO423.out n_))); (try (first | (have hcv63b430 := fun (u0_ u1_ u2_ u3_ u4_ : Value) => own_string (P := Tryd.prog) Tryd.underlying35 Tryd.underlying5 Tryd.underlying9 (Kd.own_of_R (Kd.R_far (p := ⟨gb430, 4, none⟩) (Kd.R_far (p := ⟨gb430, 3, none⟩) (Kd.R_far (p := ⟨gb430, 2, none⟩) (Kd.R_far (p := ⟨gb430, 1, none⟩) (Kd.R_far (p := ⟨gb430, 0, none⟩) (Kd.R_types HO423.out BK430.out q81_) (fun _ hk => hk.2) u0_) (fun _ hk => hk.2) u1_) (fun _ hk => hk.2) u2_) (fun _ hk => hk.2) u3_) (fun _ hk => hk.2) u4_))) | (have hcv63b430 := fun (u0_ u1_ u2_ u3_ u4_ : Value) => Own.V_string (P := Tryd.prog) Tryd.underlying35 Tryd.underlying5 Tryd.underlying9 (Kd.V_far (p := ⟨gb430, 4, none⟩) (Kd.V_far (p := ⟨gb430, 3, none⟩) (Kd.V_far (p := ⟨gb430, 2, none⟩) (Kd.V_far (p := ⟨gb430, 1, none⟩) (Kd.V_far (p := ⟨gb430, 0, none⟩) HO423.out (fun k_ hk => by first | exact hk.2 | (show k_ ≠ gb430; omega) | (intro e_; simp_all)) u0_) (fun k_ hk => by first | exact hk.2 | (show k_ ≠ gb430; omega) | (intro e_; simp_all)) u1_) (fun k_ hk => by first | exact hk.2 | (show k_ ≠ gb430; omega) | (intro e_; simp_all)) u2_) (fun k_ hk => by first | exact hk.2 | (show k_ ≠ gb430; omega) | (intro e_; simp_all)) u3_) (fun k_ hk => by first | exact hk.2 | (show k_ ≠ gb430; omega) | (intro e_; simp_all)) u4_)))); (first | (have hcv64 := own_string (P := Tryd.prog) Tryd.underlying35 Tryd.underlying5 Tryd.underlying9 (Kd.own_of_R HO_0.out); have hcv64n := fun n_ : Nat => own_string (P := Tryd.prog) Tryd.underlying35 Tryd.underlying5 Tryd.underlying9 (Kd.own_of_R (Kd.R_drewN HO_0.out n_))) | (have hcv64 := fun c_ : Nat => Kd.C_string (c := c_) (P := Tryd.prog) Tryd.underlying35 Tryd.underlying5 Tryd.underlying9 (Kd.V_reads' HO_0.out).2.2; have hcv64n := fun (c_ n_ : Nat) => Kd.C_string (c := c_) (P := Tryd.prog) Tryd.underlying35 Tryd.underlying5 Tryd.underlying9 (Kd.C_drewN (Kd.V_reads' HO_0.out).2.2 n_)) | (have hcv64 := Own.V_string (P := Tryd.prog) Tryd.underlying35 Tryd.underlying5 Tryd.underlying9 HO_0.out; have hcv64n := fun (n_ : Nat) => Own.V_string (P := Tryd.prog) Tryd.underlying35 Tryd.underlying5 Tryd.underlying9 (Kd.V_drewN HO_0.out n_))); (try (first | (have hcv64b430 := fun (u0_ u1_ u2_ u3_ u4_ : Value) => own_string (P := Tryd.prog) Tryd.underlying35 Tryd.underlying5 Tryd.underlying9 (Kd.own_of_R (Kd.R_far (p := ⟨gb430, 4, none⟩) (Kd.R_far (p := ⟨gb430, 3, none⟩) (Kd.R_far (p := ⟨gb430, 2, none⟩) (Kd.R_far (p := ⟨gb430, 1, none⟩) (Kd.R_far (p := ⟨gb430, 0, none⟩) (Kd.R_types HO_0.out BK430.out q81_) (fun _ hk => hk.2) u0_) (fun _ hk => hk.2) u1_) (fun _ hk => hk.2) u2_) (fun _ hk => hk.2) u3_) (fun _ hk => hk.2) u4_))) | (have hcv64b430 := fun (u0_ u1_ u2_ u3_ u4_ : Value) => Own.V_string (P := Tryd.prog) Tryd.underlying35 Tryd.underlying5 Tryd.underlying9 (Kd.V_far (p := ⟨gb430, 4, none⟩) (Kd.V_far (p := ⟨gb430, 3, none⟩) (Kd.V_far (p := ⟨gb430, 2, none⟩) (Kd.V_far (p := ⟨gb430, 1, none⟩) (Kd.V_far (p := ⟨gb430, 0, none⟩) HO_0.out (fun k_ hk => by first | exact hk.2 | (show k_ ≠ gb430; omega) | (intro e_; simp_all)) u0_) (fun k_ hk => by first | exact hk.2 | (show k_ ≠ gb430; omega) | (intro e_; simp_all)) u1_) (fun k_ hk => by first | exact hk.2 | (show k_ ≠ gb430; omega) | (intro e_; simp_all)) u2_) (fun k_ hk => by first | exact hk.2 | (show k_ ≠ gb430; omega) | (intro e_; simp_all)) u3_) (fun k_ hk => by first | exact hk.2 | (show k_ ≠ gb430; omega) | (intro e_; simp_all)) u4_)))); have p424 : 0 ≤ (2 : Int) := (by omega); have q424 : 2 < (l0.length : Int) := of_decide_eq_true q7_; obtain ⟨ad424, e424, hx424_0⟩ := Kd.at_int (Kd.V_reads' HO_0.out).2.2 2 p424 q424; obtain rfl : ad419 = ad424 := (by injection e424); (try simp only [show (2 : Int).toNat = 2 from rfl, Nat.reduceMul, Nat.reduceEqDiff, Go.Addr.add, ↓reduceIte] at hx424_0); have qi424 : (2 < l0.length) = True := eq_true (by omega); (try rw [show ((2 : Int)).toNat = 2 from rfl] at hx424_0); replace p424 := eq_true p424; replace q424 := eq_true q424))
            repeat (go_quiet (first | (go_at_call 20; (with_reducible refine (cambiumref19_Put.calls k2 _ _ x6_2 ((rd l0 2) == 1) t420 t421 _ ?side1 ?side2 A57.out).mono ?_); (case side1 => repeat (first | exact (Kd.S_reads' HO_6.out).2.2 | (with_reducible refine Kd.C_alloc ?_ _) | (with_reducible refine Kd.C_drewN ?_ _) | (with_reducible refine Kd.C_drew ?_))); (case side2 => exact (Kd.S_reads' HO_6.out).2.1); rintro e w62 ⟨v422, rfl, ho0, hb⟩; have n0_ := Aside0.mk (Kd.V_elder' q14_ (Kd.R_base ho0) hb); have n1_ := Aside0.mk (Kd.V_elder' q36_ (Kd.R_base ho0) hb); have n2_ := Aside0.mk (Kd.S_elder' q10_ (Kd.R_base ho0) hb); have n3_ := Aside0.mk (Kd.R_lower (Kd.R_newM (M := fun k_ => (w.heap.size ≤ k_)) ho0 (below_size q0_) (fun k_ h_ => h_)) (below_size q0_)); have n4_ := Aside0.mk (below_step q0_ hb); clear HO_0; clear HO_5; clear HO_6; clear HB; have HO_0 := n0_; have HO_5 := n1_; have HO_6 := n2_; have HO423 := n3_; have HB := n4_; clear n0_ n1_ n2_ n3_ n4_; (try clear hb); (try clear hb2); (try clear hk); (try clear hi); (try clear ho0); (first | (have hcv63 := own_string (P := Tryd.prog) Tryd.underlying35 Tryd.underlying5 Tryd.underlying9 (Kd.own_of_R HO423.out); have hcv63n := fun n_ : Nat => own_string (P := Tryd.prog) Tryd.underlying35 Tryd.underlying5 Tryd.underlying9 (Kd.own_of_R (Kd.R_drewN HO423.out n_))) | (have hcv63 := fun c_ : Nat => Kd.C_string (c := c_) (P := Tryd.prog) Tryd.underlying35 Tryd.underlying5 Tryd.underlying9 (Kd.V_reads' HO423.out).2.2; have hcv63n := fun (c_ n_ : Nat) => Kd.C_string (c := c_) (P := Tryd.prog) Tryd.underlying35 Tryd.underlying5 Tryd.underlying9 (Kd.C_drewN (Kd.V_reads' HO423.out).2.2 n_)) | (have hcv63 := Own.V_string (P := Tryd.prog) Tryd.underlying35 Tryd.underlying5 Tryd.underlying9 HO423.out; have hcv63n := fun (n_ : Nat) => Own.V_string (P := Tryd.prog) Tryd.underlying35 Tryd.underlying5 Tryd.underlying9 (Kd.V_drewN HO423.out n_))); (try (first | (have hcv63b430 := fun (u0_ u1_ u2_ u3_ u4_ : Value) => own_string (P := Tryd.prog) Tryd.underlying35 Tryd.underlying5 Tryd.underlying9 (Kd.own_of_R (Kd.R_far (p := ⟨gb430, 4, none⟩) (Kd.R_far (p := ⟨gb430, 3, none⟩) (Kd.R_far (p := ⟨gb430, 2, none⟩) (Kd.R_far (p := ⟨gb430, 1, none⟩) (Kd.R_far (p := ⟨gb430, 0, none⟩) (Kd.R_types HO423.out BK430.out q81_) (fun _ hk => hk.2) u0_) (fun _ hk => hk.2) u1_) (fun _ hk => hk.2) u2_) (fun _ hk => hk.2) u3_) (fun _ hk => hk.2) u4_))) | (have hcv63b430 := fun (u0_ u1_ u2_ u3_ u4_ : Value) => Own.V_string (P := Tryd.prog) Tryd.underlying35 Tryd.underlying5 Tryd.underlying9 (Kd.V_far (p := ⟨gb430, 4, none⟩) (Kd.V_far (p := ⟨gb430, 3, none⟩) (Kd.V_far (p := ⟨gb430, 2, none⟩) (Kd.V_far (p := ⟨gb430, 1, none⟩) (Kd.V_far (p := ⟨gb430, 0, none⟩) HO423.out (fun k_ hk => by first | exact hk.2 | (show k_ ≠ gb430; omega) | (intro e_; simp_all)) u0_) (fun k_ hk => by first | exact hk.2 | (show k_ ≠ gb430; omega) | (intro e_; simp_all)) u1_) (fun k_ hk => by first | exact hk.2 | (show k_ ≠ gb430; omega) | (intro e_; simp_all)) u2_) (fun k_ hk => by first | exact hk.2 | (show k_ ≠ gb430; omega) | (intro e_; simp_all)) u3_) (fun k_ hk => by first | exact hk.2 | (show k_ ≠ gb430; omega) | (intro e_; simp_all)) u4_)))); (first | (have hcv64 := own_string (P := Tryd.prog) Tryd.underlying35 Tryd.underlying5 Tryd.underlying9 (Kd.own_of_R HO_0.out); have hcv64n := fun n_ : Nat => own_string (P := Tryd.prog) Tryd.underlying35 Tryd.underlying5 Tryd.underlying9 (Kd.own_of_R (Kd.R_drewN HO_0.out n_))) | (have hcv64 := fun c_ : Nat => Kd.C_string (c := c_) (P := Tryd.prog) Tryd.underlying35 Tryd.underlying5 Tryd.underlying9 (Kd.V_reads' HO_0.out).2.2; have hcv64n := fun (c_ n_ : Nat) => Kd.C_string (c := c_) (P := Tryd.prog) Tryd.underlying35 Tryd.underlying5 Tryd.underlying9 (Kd.C_drewN (Kd.V_reads' HO_0.out).2.2 n_)) | (have hcv64 := Own.V_string (P := Tryd.prog) Tryd.underlying35 Tryd.underlying5 Tryd.underlying9 HO_0.out; have hcv64n := fun (n_ : Nat) => Own.V_string (P := Tryd.prog) Tryd.underlying35 Tryd.underlying5 Tryd.underlying9 (Kd.V_drewN HO_0.out n_))); (try (first | (have hcv64b430 := fun (u0_ u1_ u2_ u3_ u4_ : Value) => own_string (P := Tryd.prog) Tryd.underlying35 Tryd.underlying5 Tryd.underlying9 (Kd.own_of_R (Kd.R_far (p := ⟨gb430, 4, none⟩) (Kd.R_far (p := ⟨gb430, 3, none⟩) (Kd.R_far (p := ⟨gb430, 2, none⟩) (Kd.R_far (p := ⟨gb430, 1, none⟩) (Kd.R_far (p := ⟨gb430, 0, none⟩) (Kd.R_types HO_0.out BK430.out q81_) (fun _ hk => hk.2) u0_) (fun _ hk => hk.2) u1_) (fun _ hk => hk.2) u2_) (fun _ hk => hk.2) u3_) (fun _ hk => hk.2) u4_))) | (have hcv64b430 := fun (u0_ u1_ u2_ u3_ u4_ : Value) => Own.V_string (P := Tryd.prog) Tryd.underlying35 Tryd.underlying5 Tryd.underlying9 (Kd.V_far (p := ⟨gb430, 4, none⟩) (Kd.V_far (p := ⟨gb430, 3, none⟩) (Kd.V_far (p := ⟨gb430, 2, none⟩) (Kd.V_far (p := ⟨gb430, 1, none⟩) (Kd.V_far (p := ⟨gb430, 0, none⟩) HO_0.out (fun k_ hk => by first | exact hk.2 | (show k_ ≠ gb430; omega) | (intro e_; simp_all)) u0_) (fun k_ hk => by first | exact hk.2 | (show k_ ≠ gb430; omega) | (intro e_; simp_all)) u1_) (fun k_ hk => by first | exact hk.2 | (show k_ ≠ gb430; omega) | (intro e_; simp_all)) u2_) (fun k_ hk => by first | exact hk.2 | (show k_ ≠ gb430; omega) | (intro e_; simp_all)) u3_) (fun k_ hk => by first | exact hk.2 | (show k_ ≠ gb430; omega) | (intro e_; simp_all)) u4_)))); have p424 : 0 ≤ (2 : Int) := (by omega); have q424 : 2 < (l0.length : Int) := of_decide_eq_true q7_; obtain ⟨ad424, e424, hx424_0⟩ := Kd.at_int (Kd.V_reads' HO_0.out).2.2 2 p424 q424; obtain rfl : ad419 = ad424 := (by injection e424); (try simp only [show (2 : Int).toNat = 2 from rfl, Nat.reduceMul, Nat.reduceEqDiff, Go.Addr.add, ↓reduceIte] at hx424_0); have qi424 : (2 < l0.length) = True := eq_true (by omega); (try rw [show ((2 : Int)).toNat = 2 from rfl] at hx424_0); replace p424 := eq_true p424; replace q424 := eq_true q424)); try go_wp2_with (first | (go_at_call 20; (with_reducible refine (cambiumref19_Put.calls k2 _ _ x6_2 ((rd l0 2) == 1) t420 t421 _ ?side1 ?side2 A57.out).mono ?_); (case side1 => repeat (first | exact (Kd.S_reads' HO_6.out).2.2 | (with_reducible refine Kd.C_alloc ?_ _) | (with_reducible refine Kd.C_drewN ?_ _) | (with_reducible refine Kd.C_drew ?_))); (case side2 => exact (Kd.S_reads' HO_6.out).2.1); rintro e w62 ⟨v422, rfl, ho0, hb⟩; have n0_ := Aside0.mk (Kd.V_elder' q14_ (Kd.R_base ho0) hb); have n1_ := Aside0.mk (Kd.V_elder' q36_ (Kd.R_base ho0) hb); have n2_ := Aside0.mk (Kd.S_elder' q10_ (Kd.R_base ho0) hb); have n3_ := Aside0.mk (Kd.R_lower (Kd.R_newM (M := fun k_ => (w.heap.size ≤ k_)) ho0 (below_size q0_) (fun k_ h_ => h_)) (below_size q0_)); have n4_ := Aside0.mk (below_step q0_ hb); clear HO_0; clear HO_5; clear HO_6; clear HB; have HO_0 := n0_; have HO_5 := n1_; have HO_6 := n2_; have HO423 := n3_; have HB := n4_; clear n0_ n1_ n2_ n3_ n4_; (try clear hb); (try clear hb2); (try clear hk); (try clear hi); (try clear ho0); (first | (have hcv63 := own_string (P := Tryd.prog) Tryd.underlying35 Tryd.underlying5 Tryd.underlying9 (Kd.own_of_R HO423.out); have hcv63n := fun n_ : Nat => own_string (P := Tryd.prog) Tryd.underlying35 Tryd.underlying5 Tryd.underlying9 (Kd.own_of_R (Kd.R_drewN HO423.out n_))) | (have hcv63 := fun c_ : Nat => Kd.C_string (c := c_) (P := Tryd.prog) Tryd.underlying35 Tryd.underlying5 Tryd.underlying9 (Kd.V_reads' HO423.out).2.2; have hcv63n := fun (c_ n_ : Nat) => Kd.C_string (c := c_) (P := Tryd.prog) Tryd.underlying35 Tryd.underlying5 Tryd.underlying9 (Kd.C_drewN (Kd.V_reads' HO423.out).2.2 n_)) | (have hcv63 := Own.V_string (P := Tryd.prog) Tryd.underlying35 Tryd.underlying5 Tryd.underlying9 HO423.out; have hcv63n := fun (n_ : Nat) => Own.V_string (P := Tryd.prog) Tryd.underlying35 Tryd.underlying5 Tryd.underlying9 (Kd.V_drewN HO423.out n_))); (try (first | (have hcv63b430 := fun (u0_ u1_ u2_ u3_ u4_ : Value) => own_string (P := Tryd.prog) Tryd.underlying35 Tryd.underlying5 Tryd.underlying9 (Kd.own_of_R (Kd.R_far (p := ⟨gb430, 4, none⟩) (Kd.R_far (p := ⟨gb430, 3, none⟩) (Kd.R_far (p := ⟨gb430, 2, none⟩) (Kd.R_far (p := ⟨gb430, 1, none⟩) (Kd.R_far (p := ⟨gb430, 0, none⟩) (Kd.R_types HO423.out BK430.out q81_) (fun _ hk => hk.2) u0_) (fun _ hk => hk.2) u1_) (fun _ hk => hk.2) u2_) (fun _ hk => hk.2) u3_) (fun _ hk => hk.2) u4_))) | (have hcv63b430 := fun (u0_ u1_ u2_ u3_ u4_ : Value) => Own.V_string (P := Tryd.prog) Tryd.underlying35 Tryd.underlying5 Tryd.underlying9 (Kd.V_far (p := ⟨gb430, 4, none⟩) (Kd.V_far (p := ⟨gb430, 3, none⟩) (Kd.V_far (p := ⟨gb430, 2, none⟩) (Kd.V_far (p := ⟨gb430, 1, none⟩) (Kd.V_far (p := ⟨gb430, 0, none⟩) HO423.out (fun k_ hk => by first | exact hk.2 | (show k_ ≠ gb430; omega) | (intro e_; simp_all)) u0_) (fun k_ hk => by first | exact hk.2 | (show k_ ≠ gb430; omega) | (intro e_; simp_all)) u1_) (fun k_ hk => by first | exact hk.2 | (show k_ ≠ gb430; omega) | (intro e_; simp_all)) u2_) (fun k_ hk => by first | exact hk.2 | (show k_ ≠ gb430; omega) | (intro e_; simp_all)) u3_) (fun k_ hk => by first | exact hk.2 | (show k_ ≠ gb430; omega) | (intro e_; simp_all)) u4_)))); (first | (have hcv64 := own_string (P := Tryd.prog) Tryd.underlying35 Tryd.underlying5 Tryd.underlying9 (Kd.own_of_R HO_0.out); have hcv64n := fun n_ : Nat => own_string (P := Tryd.prog) Tryd.underlying35 Tryd.underlying5 Tryd.underlying9 (Kd.own_of_R (Kd.R_drewN HO_0.out n_))) | (have hcv64 := fun c_ : Nat => Kd.C_string (c := c_) (P := Tryd.prog) Tryd.underlying35 Tryd.underlying5 Tryd.underlying9 (Kd.V_reads' HO_0.out).2.2; have hcv64n := fun (c_ n_ : Nat) => Kd.C_string (c := c_) (P := Tryd.prog) Tryd.underlying35 Tryd.underlying5 Tryd.underlying9 (Kd.C_drewN (Kd.V_reads' HO_0.out).2.2 n_)) | (have hcv64 := Own.V_string (P := Tryd.prog) Tryd.underlying35 Tryd.underlying5 Tryd.underlying9 HO_0.out; have hcv64n := fun (n_ : Nat) => Own.V_string (P := Tryd.prog) Tryd.underlying35 Tryd.underlying5 Tryd.underlying9 (Kd.V_drewN HO_0.out n_))); (try (first | (have hcv64b430 := fun (u0_ u1_ u2_ u3_ u4_ : Value) => own_string (P := Tryd.prog) Tryd.underlying35 Tryd.underlying5 Tryd.underlying9 (Kd.own_of_R (Kd.R_far (p := ⟨gb430, 4, none⟩) (Kd.R_far (p := ⟨gb430, 3, none⟩) (Kd.R_far (p := ⟨gb430, 2, none⟩) (Kd.R_far (p := ⟨gb430, 1, none⟩) (Kd.R_far (p := ⟨gb430, 0, none⟩) (Kd.R_types HO_0.out BK430.out q81_) (fun _ hk => hk.2) u0_) (fun _ hk => hk.2) u1_) (fun _ hk => hk.2) u2_) (fun _ hk => hk.2) u3_) (fun _ hk => hk.2) u4_))) | (have hcv64b430 := fun (u0_ u1_ u2_ u3_ u4_ : Value) => Own.V_string (P := Tryd.prog) Tryd.underlying35 Tryd.underlying5 Tryd.underlying9 (Kd.V_far (p := ⟨gb430, 4, none⟩) (Kd.V_far (p := ⟨gb430, 3, none⟩) (Kd.V_far (p := ⟨gb430, 2, none⟩) (Kd.V_far (p := ⟨gb430, 1, none⟩) (Kd.V_far (p := ⟨gb430, 0, none⟩) HO_0.out (fun k_ hk => by first | exact hk.2 | (show k_ ≠ gb430; omega) | (intro e_; simp_all)) u0_) (fun k_ hk => by first | exact hk.2 | (show k_ ≠ gb430; omega) | (intro e_; simp_all)) u1_) (fun k_ hk => by first | exact hk.2 | (show k_ ≠ gb430; omega) | (intro e_; simp_all)) u2_) (fun k_ hk => by first | exact hk.2 | (show k_ ≠ gb430; omega) | (intro e_; simp_all)) u3_) (fun k_ hk => by first | exact hk.2 | (show k_ ≠ gb430; omega) | (intro e_; simp_all)) u4_)))); have p424 : 0 ≤ (2 : Int) := (by omega); have q424 : 2 < (l0.length : Int) := of_decide_eq_true q7_; obtain ⟨ad424, e424, hx424_0⟩ := Kd.at_int (Kd.V_reads' HO_0.out).2.2 2 p424 q424; obtain rfl : ad419 = ad424 := (by injection e424); (try simp only [show (2 : Int).toNat = 2 from rfl, Nat.reduceMul, Nat.reduceEqDiff, Go.Addr.add, ↓reduceIte] at hx424_0); have qi424 : (2 < l0.length) = True := eq_true (by omega); (try rw [show ((2 : Int)).toNat = 2 from rfl] at hx424_0); replace p424 := eq_true p424; replace q424 := eq_true q424)))
            go_ret3
            exact ⟨_, by first | rfl | (simp [errW_none, errW_some] <;> rfl) | (simp [*, errW_none, errW_some] <;> rfl), by (with_reducible repeat (first | apply Kd.S_alloc | apply Kd.S_drewN | apply Kd.S_drew)); exact Kd.S_mono HO_6.out (fun _ hk => hk.1), by repeat (first | (with_reducible first | exact HB.out | apply below_alloc | apply pw_below_drewN | apply below_drew1) | exact HB.out)⟩
           ·rw [if_neg c59] at H
            have c59b0 : ((strOfNums t420).toList == (strOfNums l0).toList) = false := beq_eq_false_iff_ne.mpr c59
            have c59b1 : ((strOfNums t420).toList != (strOfNums l0).toList) = true := bne_iff_ne.mpr c59
            simp only [Option.some.injEq, Prod.mk.injEq] at H
            obtain ⟨rfl, rfl, rfl⟩ := H
            obtain ⟨Ao65, co65, eo65⟩ := Kd.V_slice HO_5.out
            subst eo65
            have p419 : 0 ≤ (2 : Int) := (by omega)
            have q419 : 2 < (l0.length : Int) := of_decide_eq_true q7_
            obtain ⟨ad419, e419, hx419_0⟩ := Kd.at_int (Kd.V_reads' HO_0.out).2.2 2 p419 q419
            cases e419
            (try simp only [show (2 : Int).toNat = 2 from rfl, Nat.reduceMul, Nat.reduceEqDiff, Go.Addr.add, ↓reduceIte] at hx419_0)
            have qi419 : (2 < l0.length) = True := eq_true (by omega)
            (try rw [show ((2 : Int)).toNat = 2 from rfl] at hx419_0)
            replace p419 := eq_true p419
            replace q419 := eq_true q419
            obtain ⟨Ao66, co66, eo66⟩ := Kd.S_slice HO_6.out
            subst eo66
            go_wp2_with (first | (go_at_call 20; (with_reducible refine (cambiumref19_Put.calls k2 _ _ x6_2 ((rd l0 2) == 1) t420 t421 _ ?side1 ?side2 A57.out).mono ?_); (case side1 => repeat (first | exact (Kd.S_reads' HO_6.out).2.2 | (with_reducible refine Kd.C_alloc ?_ _) | (with_reducible refine Kd.C_drewN ?_ _) | (with_reducible refine Kd.C_drew ?_))); (case side2 => exact (Kd.S_reads' HO_6.out).2.1); rintro e w67 ⟨v422, rfl, ho0, hb⟩; have n0_ := Aside0.mk (Kd.V_elder' q14_ (Kd.R_base ho0) hb); have n1_ := Aside0.mk (Kd.V_elder' q36_ (Kd.R_base ho0) hb); have n2_ := Aside0.mk (Kd.S_elder' q10_ (Kd.R_base ho0) hb); have n3_ := Aside0.mk (Kd.R_lower (Kd.R_newM (M := fun k_ => (w.heap.size ≤ k_)) ho0 (below_size q0_) (fun k_ h_ => h_)) (below_size q0_)); have n4_ := Aside0.mk (below_step q0_ hb); clear HO_0; clear HO_5; clear HO_6; clear HB; have HO_0 := n0_; have HO_5 := n1_; have HO_6 := n2_; have HO423 := n3_; have HB := n4_; clear n0_ n1_ n2_ n3_ n4_; (try clear hb); (try clear hb2); (try clear hk); (try clear hi); (try clear ho0); (first | (have hcv68 := own_string (P := Tryd.prog) Tryd.underlying35 Tryd.underlying5 Tryd.underlying9 (Kd.own_of_R HO423.out); have hcv68n := fun n_ : Nat => own_string (P := Tryd.prog) Tryd.underlying35 Tryd.underlying5 Tryd.underlying9 (Kd.own_of_R (Kd.R_drewN HO423.out n_))) | (have hcv68 := fun c_ : Nat => Kd.C_string (c := c_) (P := Tryd.prog) Tryd.underlying35 Tryd.underlying5 Tryd.underlying9 (Kd.V_reads' HO423.out).2.2; have hcv68n := fun (c_ n_ : Nat) => Kd.C_string (c := c_) (P := Tryd.prog) Tryd.underlying35 Tryd.underlying5 Tryd.underlying9 (Kd.C_drewN (Kd.V_reads' HO423.out).2.2 n_)) | (have hcv68 := Own.V_string (P := Tryd.prog) Tryd.underlying35 Tryd.underlying5 Tryd.underlying9 HO423.out; have hcv68n := fun (n_ : Nat) => Own.V_string (P := Tryd.prog) Tryd.underlying35 Tryd.underlying5 Tryd.underlying9 (Kd.V_drewN HO423.out n_))); (try (first | (have hcv68b430 := fun (u0_ u1_ u2_ u3_ u4_ : Value) => own_string (P := Tryd.prog) Tryd.underlying35 Tryd.underlying5 Tryd.underlying9 (Kd.own_of_R (Kd.R_far (p := ⟨gb430, 4, none⟩) (Kd.R_far (p := ⟨gb430, 3, none⟩) (Kd.R_far (p := ⟨gb430, 2, none⟩) (Kd.R_far (p := ⟨gb430, 1, none⟩) (Kd.R_far (p := ⟨gb430, 0, none⟩) (Kd.R_types HO423.out BK430.out q81_) (fun _ hk => hk.2) u0_) (fun _ hk => hk.2) u1_) (fun _ hk => hk.2) u2_) (fun _ hk => hk.2) u3_) (fun _ hk => hk.2) u4_))) | (have hcv68b430 := fun (u0_ u1_ u2_ u3_ u4_ : Value) => Own.V_string (P := Tryd.prog) Tryd.underlying35 Tryd.underlying5 Tryd.underlying9 (Kd.V_far (p := ⟨gb430, 4, none⟩) (Kd.V_far (p := ⟨gb430, 3, none⟩) (Kd.V_far (p := ⟨gb430, 2, none⟩) (Kd.V_far (p := ⟨gb430, 1, none⟩) (Kd.V_far (p := ⟨gb430, 0, none⟩) HO423.out (fun k_ hk => by first | exact hk.2 | (show k_ ≠ gb430; omega) | (intro e_; simp_all)) u0_) (fun k_ hk => by first | exact hk.2 | (show k_ ≠ gb430; omega) | (intro e_; simp_all)) u1_) (fun k_ hk => by first | exact hk.2 | (show k_ ≠ gb430; omega) | (intro e_; simp_all)) u2_) (fun k_ hk => by first | exact hk.2 | (show k_ ≠ gb430; omega) | (intro e_; simp_all)) u3_) (fun k_ hk => by first | exact hk.2 | (show k_ ≠ gb430; omega) | (intro e_; simp_all)) u4_)))); (first | (have hcv69 := own_string (P := Tryd.prog) Tryd.underlying35 Tryd.underlying5 Tryd.underlying9 (Kd.own_of_R HO_0.out); have hcv69n := fun n_ : Nat => own_string (P := Tryd.prog) Tryd.underlying35 Tryd.underlying5 Tryd.underlying9 (Kd.own_of_R (Kd.R_drewN HO_0.out n_))) | (have hcv69 := fun c_ : Nat => Kd.C_string (c := c_) (P := Tryd.prog) Tryd.underlying35 Tryd.underlying5 Tryd.underlying9 (Kd.V_reads' HO_0.out).2.2; have hcv69n := fun (c_ n_ : Nat) => Kd.C_string (c := c_) (P := Tryd.prog) Tryd.underlying35 Tryd.underlying5 Tryd.underlying9 (Kd.C_drewN (Kd.V_reads' HO_0.out).2.2 n_)) | (have hcv69 := Own.V_string (P := Tryd.prog) Tryd.underlying35 Tryd.underlying5 Tryd.underlying9 HO_0.out; have hcv69n := fun (n_ : Nat) => Own.V_string (P := Tryd.prog) Tryd.underlying35 Tryd.underlying5 Tryd.underlying9 (Kd.V_drewN HO_0.out n_))); (try (first | (have hcv69b430 := fun (u0_ u1_ u2_ u3_ u4_ : Value) => own_string (P := Tryd.prog) Tryd.underlying35 Tryd.underlying5 Tryd.underlying9 (Kd.own_of_R (Kd.R_far (p := ⟨gb430, 4, none⟩) (Kd.R_far (p := ⟨gb430, 3, none⟩) (Kd.R_far (p := ⟨gb430, 2, none⟩) (Kd.R_far (p := ⟨gb430, 1, none⟩) (Kd.R_far (p := ⟨gb430, 0, none⟩) (Kd.R_types HO_0.out BK430.out q81_) (fun _ hk => hk.2) u0_) (fun _ hk => hk.2) u1_) (fun _ hk => hk.2) u2_) (fun _ hk => hk.2) u3_) (fun _ hk => hk.2) u4_))) | (have hcv69b430 := fun (u0_ u1_ u2_ u3_ u4_ : Value) => Own.V_string (P := Tryd.prog) Tryd.underlying35 Tryd.underlying5 Tryd.underlying9 (Kd.V_far (p := ⟨gb430, 4, none⟩) (Kd.V_far (p := ⟨gb430, 3, none⟩) (Kd.V_far (p := ⟨gb430, 2, none⟩) (Kd.V_far (p := ⟨gb430, 1, none⟩) (Kd.V_far (p := ⟨gb430, 0, none⟩) HO_0.out (fun k_ hk => by first | exact hk.2 | (show k_ ≠ gb430; omega) | (intro e_; simp_all)) u0_) (fun k_ hk => by first | exact hk.2 | (show k_ ≠ gb430; omega) | (intro e_; simp_all)) u1_) (fun k_ hk => by first | exact hk.2 | (show k_ ≠ gb430; omega) | (intro e_; simp_all)) u2_) (fun k_ hk => by first | exact hk.2 | (show k_ ≠ gb430; omega) | (intro e_; simp_all)) u3_) (fun k_ hk => by first | exact hk.2 | (show k_ ≠ gb430; omega) | (intro e_; simp_all)) u4_))))))
            repeat (go_quiet (first | (go_at_call 20; (with_reducible refine (cambiumref19_Put.calls k2 _ _ x6_2 ((rd l0 2) == 1) t420 t421 _ ?side1 ?side2 A57.out).mono ?_); (case side1 => repeat (first | exact (Kd.S_reads' HO_6.out).2.2 | (with_reducible refine Kd.C_alloc ?_ _) | (with_reducible refine Kd.C_drewN ?_ _) | (with_reducible refine Kd.C_drew ?_))); (case side2 => exact (Kd.S_reads' HO_6.out).2.1); rintro e w67 ⟨v422, rfl, ho0, hb⟩; have n0_ := Aside0.mk (Kd.V_elder' q14_ (Kd.R_base ho0) hb); have n1_ := Aside0.mk (Kd.V_elder' q36_ (Kd.R_base ho0) hb); have n2_ := Aside0.mk (Kd.S_elder' q10_ (Kd.R_base ho0) hb); have n3_ := Aside0.mk (Kd.R_lower (Kd.R_newM (M := fun k_ => (w.heap.size ≤ k_)) ho0 (below_size q0_) (fun k_ h_ => h_)) (below_size q0_)); have n4_ := Aside0.mk (below_step q0_ hb); clear HO_0; clear HO_5; clear HO_6; clear HB; have HO_0 := n0_; have HO_5 := n1_; have HO_6 := n2_; have HO423 := n3_; have HB := n4_; clear n0_ n1_ n2_ n3_ n4_; (try clear hb); (try clear hb2); (try clear hk); (try clear hi); (try clear ho0); (first | (have hcv68 := own_string (P := Tryd.prog) Tryd.underlying35 Tryd.underlying5 Tryd.underlying9 (Kd.own_of_R HO423.out); have hcv68n := fun n_ : Nat => own_string (P := Tryd.prog) Tryd.underlying35 Tryd.underlying5 Tryd.underlying9 (Kd.own_of_R (Kd.R_drewN HO423.out n_))) | (have hcv68 := fun c_ : Nat => Kd.C_string (c := c_) (P := Tryd.prog) Tryd.underlying35 Tryd.underlying5 Tryd.underlying9 (Kd.V_reads' HO423.out).2.2; have hcv68n := fun (c_ n_ : Nat) => Kd.C_string (c := c_) (P := Tryd.prog) Tryd.underlying35 Tryd.underlying5 Tryd.underlying9 (Kd.C_drewN (Kd.V_reads' HO423.out).2.2 n_)) | (have hcv68 := Own.V_string (P := Tryd.prog) Tryd.underlying35 Tryd.underlying5 Tryd.underlying9 HO423.out; have hcv68n := fun (n_ : Nat) => Own.V_string (P := Tryd.prog) Tryd.underlying35 Tryd.underlying5 Tryd.underlying9 (Kd.V_drewN HO423.out n_))); (try (first | (have hcv68b430 := fun (u0_ u1_ u2_ u3_ u4_ : Value) => own_string (P := Tryd.prog) Tryd.underlying35 Tryd.underlying5 Tryd.underlying9 (Kd.own_of_R (Kd.R_far (p := ⟨gb430, 4, none⟩) (Kd.R_far (p := ⟨gb430, 3, none⟩) (Kd.R_far (p := ⟨gb430, 2, none⟩) (Kd.R_far (p := ⟨gb430, 1, none⟩) (Kd.R_far (p := ⟨gb430, 0, none⟩) (Kd.R_types HO423.out BK430.out q81_) (fun _ hk => hk.2) u0_) (fun _ hk => hk.2) u1_) (fun _ hk => hk.2) u2_) (fun _ hk => hk.2) u3_) (fun _ hk => hk.2) u4_))) | (have hcv68b430 := fun (u0_ u1_ u2_ u3_ u4_ : Value) => Own.V_string (P := Tryd.prog) Tryd.underlying35 Tryd.underlying5 Tryd.underlying9 (Kd.V_far (p := ⟨gb430, 4, none⟩) (Kd.V_far (p := ⟨gb430, 3, none⟩) (Kd.V_far (p := ⟨gb430, 2, none⟩) (Kd.V_far (p := ⟨gb430, 1, none⟩) (Kd.V_far (p := ⟨gb430, 0, none⟩) HO423.out (fun k_ hk => by first | exact hk.2 | (show k_ ≠ gb430; omega) | (intro e_; simp_all)) u0_) (fun k_ hk => by first | exact hk.2 | (show k_ ≠ gb430; omega) | (intro e_; simp_all)) u1_) (fun k_ hk => by first | exact hk.2 | (show k_ ≠ gb430; omega) | (intro e_; simp_all)) u2_) (fun k_ hk => by first | exact hk.2 | (show k_ ≠ gb430; omega) | (intro e_; simp_all)) u3_) (fun k_ hk => by first | exact hk.2 | (show k_ ≠ gb430; omega) | (intro e_; simp_all)) u4_)))); (first | (have hcv69 := own_string (P := Tryd.prog) Tryd.underlying35 Tryd.underlying5 Tryd.underlying9 (Kd.own_of_R HO_0.out); have hcv69n := fun n_ : Nat => own_string (P := Tryd.prog) Tryd.underlying35 Tryd.underlying5 Tryd.underlying9 (Kd.own_of_R (Kd.R_drewN HO_0.out n_))) | (have hcv69 := fun c_ : Nat => Kd.C_string (c := c_) (P := Tryd.prog) Tryd.underlying35 Tryd.underlying5 Tryd.underlying9 (Kd.V_reads' HO_0.out).2.2; have hcv69n := fun (c_ n_ : Nat) => Kd.C_string (c := c_) (P := Tryd.prog) Tryd.underlying35 Tryd.underlying5 Tryd.underlying9 (Kd.C_drewN (Kd.V_reads' HO_0.out).2.2 n_)) | (have hcv69 := Own.V_string (P := Tryd.prog) Tryd.underlying35 Tryd.underlying5 Tryd.underlying9 HO_0.out; have hcv69n := fun (n_ : Nat) => Own.V_string (P := Tryd.prog) Tryd.underlying35 Tryd.underlying5 Tryd.underlying9 (Kd.V_drewN HO_0.out n_))); (try (first | (have hcv69b430 := fun (u0_ u1_ u2_ u3_ u4_ : Value) => own_string (P := Tryd.prog) Tryd.underlying35 Tryd.underlying5 Tryd.underlying9 (Kd.own_of_R (Kd.R_far (p := ⟨gb430, 4, none⟩) (Kd.R_far (p := ⟨gb430, 3, none⟩) (Kd.R_far (p := ⟨gb430, 2, none⟩) (Kd.R_far (p := ⟨gb430, 1, none⟩) (Kd.R_far (p := ⟨gb430, 0, none⟩) (Kd.R_types HO_0.out BK430.out q81_) (fun _ hk => hk.2) u0_) (fun _ hk => hk.2) u1_) (fun _ hk => hk.2) u2_) (fun _ hk => hk.2) u3_) (fun _ hk => hk.2) u4_))) | (have hcv69b430 := fun (u0_ u1_ u2_ u3_ u4_ : Value) => Own.V_string (P := Tryd.prog) Tryd.underlying35 Tryd.underlying5 Tryd.underlying9 (Kd.V_far (p := ⟨gb430, 4, none⟩) (Kd.V_far (p := ⟨gb430, 3, none⟩) (Kd.V_far (p := ⟨gb430, 2, none⟩) (Kd.V_far (p := ⟨gb430, 1, none⟩) (Kd.V_far (p := ⟨gb430, 0, none⟩) HO_0.out (fun k_ hk => by first | exact hk.2 | (show k_ ≠ gb430; omega) | (intro e_; simp_all)) u0_) (fun k_ hk => by first | exact hk.2 | (show k_ ≠ gb430; omega) | (intro e_; simp_all)) u1_) (fun k_ hk => by first | exact hk.2 | (show k_ ≠ gb430; omega) | (intro e_; simp_all)) u2_) (fun k_ hk => by first | exact hk.2 | (show k_ ≠ gb430; omega) | (intro e_; simp_all)) u3_) (fun k_ hk => by first | exact hk.2 | (show k_ ≠ gb430; omega) | (intro e_; simp_all)) u4_)))))); try go_wp2_with (first | (go_at_call 20; (with_reducible refine (cambiumref19_Put.calls k2 _ _ x6_2 ((rd l0 2) == 1) t420 t421 _ ?side1 ?side2 A57.out).mono ?_); (case side1 => repeat (first | exact (Kd.S_reads' HO_6.out).2.2 | (with_reducible refine Kd.C_alloc ?_ _) | (with_reducible refine Kd.C_drewN ?_ _) | (with_reducible refine Kd.C_drew ?_))); (case side2 => exact (Kd.S_reads' HO_6.out).2.1); rintro e w67 ⟨v422, rfl, ho0, hb⟩; have n0_ := Aside0.mk (Kd.V_elder' q14_ (Kd.R_base ho0) hb); have n1_ := Aside0.mk (Kd.V_elder' q36_ (Kd.R_base ho0) hb); have n2_ := Aside0.mk (Kd.S_elder' q10_ (Kd.R_base ho0) hb); have n3_ := Aside0.mk (Kd.R_lower (Kd.R_newM (M := fun k_ => (w.heap.size ≤ k_)) ho0 (below_size q0_) (fun k_ h_ => h_)) (below_size q0_)); have n4_ := Aside0.mk (below_step q0_ hb); clear HO_0; clear HO_5; clear HO_6; clear HB; have HO_0 := n0_; have HO_5 := n1_; have HO_6 := n2_; have HO423 := n3_; have HB := n4_; clear n0_ n1_ n2_ n3_ n4_; (try clear hb); (try clear hb2); (try clear hk); (try clear hi); (try clear ho0); (first | (have hcv68 := own_string (P := Tryd.prog) Tryd.underlying35 Tryd.underlying5 Tryd.underlying9 (Kd.own_of_R HO423.out); have hcv68n := fun n_ : Nat => own_string (P := Tryd.prog) Tryd.underlying35 Tryd.underlying5 Tryd.underlying9 (Kd.own_of_R (Kd.R_drewN HO423.out n_))) | (have hcv68 := fun c_ : Nat => Kd.C_string (c := c_) (P := Tryd.prog) Tryd.underlying35 Tryd.underlying5 Tryd.underlying9 (Kd.V_reads' HO423.out).2.2; have hcv68n := fun (c_ n_ : Nat) => Kd.C_string (c := c_) (P := Tryd.prog) Tryd.underlying35 Tryd.underlying5 Tryd.underlying9 (Kd.C_drewN (Kd.V_reads' HO423.out).2.2 n_)) | (have hcv68 := Own.V_string (P := Tryd.prog) Tryd.underlying35 Tryd.underlying5 Tryd.underlying9 HO423.out; have hcv68n := fun (n_ : Nat) => Own.V_string (P := Tryd.prog) Tryd.underlying35 Tryd.underlying5 Tryd.underlying9 (Kd.V_drewN HO423.out n_))); (try (first | (have hcv68b430 := fun (u0_ u1_ u2_ u3_ u4_ : Value) => own_string (P := Tryd.prog) Tryd.underlying35 Tryd.underlying5 Tryd.underlying9 (Kd.own_of_R (Kd.R_far (p := ⟨gb430, 4, none⟩) (Kd.R_far (p := ⟨gb430, 3, none⟩) (Kd.R_far (p := ⟨gb430, 2, none⟩) (Kd.R_far (p := ⟨gb430, 1, none⟩) (Kd.R_far (p := ⟨gb430, 0, none⟩) (Kd.R_types HO423.out BK430.out q81_) (fun _ hk => hk.2) u0_) (fun _ hk => hk.2) u1_) (fun _ hk => hk.2) u2_) (fun _ hk => hk.2) u3_) (fun _ hk => hk.2) u4_))) | (have hcv68b430 := fun (u0_ u1_ u2_ u3_ u4_ : Value) => Own.V_string (P := Tryd.prog) Tryd.underlying35 Tryd.underlying5 Tryd.underlying9 (Kd.V_far (p := ⟨gb430, 4, none⟩) (Kd.V_far (p := ⟨gb430, 3, none⟩) (Kd.V_far (p := ⟨gb430, 2, none⟩) (Kd.V_far (p := ⟨gb430, 1, none⟩) (Kd.V_far (p := ⟨gb430, 0, none⟩) HO423.out (fun k_ hk => by first | exact hk.2 | (show k_ ≠ gb430; omega) | (intro e_; simp_all)) u0_) (fun k_ hk => by first | exact hk.2 | (show k_ ≠ gb430; omega) | (intro e_; simp_all)) u1_) (fun k_ hk => by first | exact hk.2 | (show k_ ≠ gb430; omega) | (intro e_; simp_all)) u2_) (fun k_ hk => by first | exact hk.2 | (show k_ ≠ gb430; omega) | (intro e_; simp_all)) u3_) (fun k_ hk => by first | exact hk.2 | (show k_ ≠ gb430; omega) | (intro e_; simp_all)) u4_)))); (first | (have hcv69 := own_string (P := Tryd.prog) Tryd.underlying35 Tryd.underlying5 Tryd.underlying9 (Kd.own_of_R HO_0.out); have hcv69n := fun n_ : Nat => own_string (P := Tryd.prog) Tryd.underlying35 Tryd.underlying5 Tryd.underlying9 (Kd.own_of_R (Kd.R_drewN HO_0.out n_))) | (have hcv69 := fun c_ : Nat => Kd.C_string (c := c_) (P := Tryd.prog) Tryd.underlying35 Tryd.underlying5 Tryd.underlying9 (Kd.V_reads' HO_0.out).2.2; have hcv69n := fun (c_ n_ : Nat) => Kd.C_string (c := c_) (P := Tryd.prog) Tryd.underlying35 Tryd.underlying5 Tryd.underlying9 (Kd.C_drewN (Kd.V_reads' HO_0.out).2.2 n_)) | (have hcv69 := Own.V_string (P := Tryd.prog) Tryd.underlying35 Tryd.underlying5 Tryd.underlying9 HO_0.out; have hcv69n := fun (n_ : Nat) => Own.V_string (P := Tryd.prog) Tryd.underlying35 Tryd.underlying5 Tryd.underlying9 (Kd.V_drewN HO_0.out n_))); (try (first | (have hcv69b430 := fun (u0_ u1_ u2_ u3_ u4_ : Value) => own_string (P := Tryd.prog) Tryd.underlying35 Tryd.underlying5 Tryd.underlying9 (Kd.own_of_R (Kd.R_far (p := ⟨gb430, 4, none⟩) (Kd.R_far (p := ⟨gb430, 3, none⟩) (Kd.R_far (p := ⟨gb430, 2, none⟩) (Kd.R_far (p := ⟨gb430, 1, none⟩) (Kd.R_far (p := ⟨gb430, 0, none⟩) (Kd.R_types HO_0.out BK430.out q81_) (fun _ hk => hk.2) u0_) (fun _ hk => hk.2) u1_) (fun _ hk => hk.2) u2_) (fun _ hk => hk.2) u3_) (fun _ hk => hk.2) u4_))) | (have hcv69b430 := fun (u0_ u1_ u2_ u3_ u4_ : Value) => Own.V_string (P := Tryd.prog) Tryd.underlying35 Tryd.underlying5 Tryd.underlying9 (Kd.V_far (p := ⟨gb430, 4, none⟩) (Kd.V_far (p := ⟨gb430, 3, none⟩) (Kd.V_far (p := ⟨gb430, 2, none⟩) (Kd.V_far (p := ⟨gb430, 1, none⟩) (Kd.V_far (p := ⟨gb430, 0, none⟩) HO_0.out (fun k_ hk => by first | exact hk.2 | (show k_ ≠ gb430; omega) | (intro e_; simp_all)) u0_) (fun k_ hk => by first | exact hk.2 | (show k_ ≠ gb430; omega) | (intro e_; simp_all)) u1_) (fun k_ hk => by first | exact hk.2 | (show k_ ≠ gb430; omega) | (intro e_; simp_all)) u2_) (fun k_ hk => by first | exact hk.2 | (show k_ ≠ gb430; omega) | (intro e_; simp_all)) u3_) (fun k_ hk => by first | exact hk.2 | (show k_ ≠ gb430; omega) | (intro e_; simp_all)) u4_)))))))
            go_ret3
            exact ⟨_, by first | rfl | (simp [errW_none, errW_some] <;> rfl) | (simp [*, errW_none, errW_some] <;> rfl), by first | exact Kd.S_nil _ _ _ _ _ | exact Kd.N_nil _ _ _ _ _ | exact Kd.V_nil _ _ _ _ _ | exact Kd.Q_nil _ _ _ _ _ | exact Kd.R_nil _ _ _ _ _, by repeat (first | (with_reducible first | exact HB.out | apply below_alloc | apply pw_below_drewN | apply below_drew1) | exact HB.out)⟩
          ·rw [if_neg c58] at H
           have c58b0 : (t421 == 0) = false := beq_eq_false_iff_ne.mpr c58
           have c58b1 : (t421 != 0) = true := bne_iff_ne.mpr c58
           simp only [Option.some.injEq, Prod.mk.injEq] at H
           obtain ⟨rfl, rfl, rfl⟩ := H
           obtain ⟨Ao70, co70, eo70⟩ := Kd.V_slice HO_5.out
           subst eo70
           have p419 : 0 ≤ (2 : Int) := (by omega)
           have q419 : 2 < (l0.length : Int) := of_decide_eq_true q7_
           obtain ⟨ad419, e419, hx419_0⟩ := Kd.at_int (Kd.V_reads' HO_0.out).2.2 2 p419 q419
           cases e419
           (try simp only [show (2 : Int).toNat = 2 from rfl, Nat.reduceMul, Nat.reduceEqDiff, Go.Addr.add, ↓reduceIte] at hx419_0)
           have qi419 : (2 < l0.length) = True := eq_true (by omega)
           (try rw [show ((2 : Int)).toNat = 2 from rfl] at hx419_0)
           replace p419 := eq_true p419
           replace q419 := eq_true q419
           obtain ⟨Ao71, co71, eo71⟩ := Kd.S_slice HO_6.out
           subst eo71
           go_wp2_with (first | (go_at_call 20; (with_reducible refine (cambiumref19_Put.calls k2 _ _ x6_2 ((rd l0 2) == 1) t420 t421 _ ?side1 ?side2 A57.out).mono ?_); (case side1 => repeat (first | exact (Kd.S_reads' HO_6.out).2.2 | (with_reducible refine Kd.C_alloc ?_ _) | (with_reducible refine Kd.C_drewN ?_ _) | (with_reducible refine Kd.C_drew ?_))); (case side2 => exact (Kd.S_reads' HO_6.out).2.1); rintro e w72 ⟨v422, rfl, ho0, hb⟩; have n0_ := Aside0.mk (Kd.V_elder' q14_ (Kd.R_base ho0) hb); have n1_ := Aside0.mk (Kd.V_elder' q36_ (Kd.R_base ho0) hb); have n2_ := Aside0.mk (Kd.S_elder' q10_ (Kd.R_base ho0) hb); have n3_ := Aside0.mk (Kd.R_lower (Kd.R_newM (M := fun k_ => (w.heap.size ≤ k_)) ho0 (below_size q0_) (fun k_ h_ => h_)) (below_size q0_)); have n4_ := Aside0.mk (below_step q0_ hb); clear HO_0; clear HO_5; clear HO_6; clear HB; have HO_0 := n0_; have HO_5 := n1_; have HO_6 := n2_; have HO423 := n3_; have HB := n4_; clear n0_ n1_ n2_ n3_ n4_; (try clear hb); (try clear hb2); (try clear hk); (try clear hi); (try clear ho0)))
           repeat (go_quiet (first | (go_at_call 20; (with_reducible refine (cambiumref19_Put.calls k2 _ _ x6_2 ((rd l0 2) == 1) t420 t421 _ ?side1 ?side2 A57.out).mono ?_); (case side1 => repeat (first | exact (Kd.S_reads' HO_6.out).2.2 | (with_reducible refine Kd.C_alloc ?_ _) | (with_reducible refine Kd.C_drewN ?_ _) | (with_reducible refine Kd.C_drew ?_))); (case side2 => exact (Kd.S_reads' HO_6.out).2.1); rintro e w72 ⟨v422, rfl, ho0, hb⟩; have n0_ := Aside0.mk (Kd.V_elder' q14_ (Kd.R_base ho0) hb); have n1_ := Aside0.mk (Kd.V_elder' q36_ (Kd.R_base ho0) hb); have n2_ := Aside0.mk (Kd.S_elder' q10_ (Kd.R_base ho0) hb); have n3_ := Aside0.mk (Kd.R_lower (Kd.R_newM (M := fun k_ => (w.heap.size ≤ k_)) ho0 (below_size q0_) (fun k_ h_ => h_)) (below_size q0_)); have n4_ := Aside0.mk (below_step q0_ hb); clear HO_0; clear HO_5; clear HO_6; clear HB; have HO_0 := n0_; have HO_5 := n1_; have HO_6 := n2_; have HO423 := n3_; have HB := n4_; clear n0_ n1_ n2_ n3_ n4_; (try clear hb); (try clear hb2); (try clear hk); (try clear hi); (try clear ho0))); try go_wp2_with (first | (go_at_call 20; (with_reducible refine (cambiumref19_Put.calls k2 _ _ x6_2 ((rd l0 2) == 1) t420 t421 _ ?side1 ?side2 A57.out).mono ?_); (case side1 => repeat (first | exact (Kd.S_reads' HO_6.out).2.2 | (with_reducible refine Kd.C_alloc ?_ _) | (with_reducible refine Kd.C_drewN ?_ _) | (with_reducible refine Kd.C_drew ?_))); (case side2 => exact (Kd.S_reads' HO_6.out).2.1); rintro e w72 ⟨v422, rfl, ho0, hb⟩; have n0_ := Aside0.mk (Kd.V_elder' q14_ (Kd.R_base ho0) hb); have n1_ := Aside0.mk (Kd.V_elder' q36_ (Kd.R_base ho0) hb); have n2_ := Aside0.mk (Kd.S_elder' q10_ (Kd.R_base ho0) hb); have n3_ := Aside0.mk (Kd.R_lower (Kd.R_newM (M := fun k_ => (w.heap.size ≤ k_)) ho0 (below_size q0_) (fun k_ h_ => h_)) (below_size q0_)); have n4_ := Aside0.mk (below_step q0_ hb); clear HO_0; clear HO_5; clear HO_6; clear HB; have HO_0 := n0_; have HO_5 := n1_; have HO_6 := n2_; have HO423 := n3_; have HB := n4_; clear n0_ n1_ n2_ n3_ n4_; (try clear hb); (try clear hb2); (try clear hk); (try clear hi); (try clear ho0))))
           go_ret3
           exact ⟨_, by first | rfl | (simp [errW_none, errW_some] <;> rfl) | (simp [*, errW_none, errW_some] <;> rfl), by first | exact Kd.S_nil _ _ _ _ _ | exact Kd.N_nil _ _ _ _ _ | exact Kd.V_nil _ _ _ _ _ | exact Kd.Q_nil _ _ _ _ _ | exact Kd.R_nil _ _ _ _ _, by repeat (first | (with_reducible first | exact HB.out | apply below_alloc | apply pw_below_drewN | apply below_drew1) | exact HB.out)⟩
         ·rw [if_neg c56] at H
          exact absurd H (by simp)
     ·rw [if_neg c6] at H
      exact absurd H (by simp)
    ·rw [if_neg c5] at H
     exact absurd H (by simp)
end Go.Proofs.YtgklipfeheohkaaDoor.P
