/- Functions and contracts, written by a program (mkprint.py, a wrapper of ours around the print); texts between GIVEN marks are ours. -/
import Derived.Test.YtafgfaimenccdaaDoorPx0
import Derived.Test.YtafgfaimenccdaaDoorPx2
import Derived.Test.YtafgfaimenccdaaDoorPx3
import Derived.Test.YtafgfaimenccdaaDoorPx4
namespace Go.Proofs.YtafgfaimenccdaaDoor.P
open Go.RowKit Go.Proofs.YtafgfaimenccdaaDoorW.PrintWords Go.Proofs.YtafgfaimenccdaaDoorW.PrintLast Go.Proofs.YtafgfaimenccdaaDoorW.PrintMore
attribute [local go_sem] max2_int min2_int max_two min_two max_three min_three max_four min_four   -- for this text's walks alone
set_option linter.unusedVariables false
set_option linter.unusedSimpArgs false
theorem q4_ {P : Prop} (h : P := by first | exact Kd.R_nil _ _ _ _ _ | exact Kd.N_nil _ _ _ _ _ | exact Kd.V_nil _ _ _ _ _ | exact Kd.Q_nil _ _ _ _ _ | exact Kd.S_nil _ _ _ _ _) : P := h

/-! ### cambiumref14_Split: function 14 -/
mutual
def cambiumref14_Split.j0 : Nat → ByteArray → Bool → Option (ByteArray × List ByteArray × Int)
 | 0, _, _ => none
 | k + 1, x0, x18 => if x18 = true then (some ((⟨#[]⟩ : ByteArray), ([] : List ByteArray), 12)) else (if x0.toList = ([47] : List UInt8) then (some ((⟨#[]⟩ : ByteArray), ([] : List ByteArray), 0)) else (if 1 ≤ (x0.size : Int) then ((cambiumref14_Parts.f k (x0.extract 1 x0.size)).bind fun t116 => (if 0 < (t116.length : Int) then ((cambiumref07_Label.f k (rdOf ByteArray.empty t116 0)).bind fun t120 => (if t120 = true then (cambiumref14_Split.l0 k t116 1) else (some ((⟨#[]⟩ : ByteArray), ([] : List ByteArray), 12)))) else (none))) else (none)))
def cambiumref14_Split.l0 : Nat → List ByteArray → Int → Option (ByteArray × List ByteArray × Int)
 | 0, _, _ => none
 | k + 1, x5, x7 => if x7 < (x5.length : Int) then (if 0 ≤ x7 then ((cambiumref14_Valid.f k (rdOf ByteArray.empty x5 x7)).bind fun t122 => (if t122 = 0 then (cambiumref14_Split.l0 k x5 (wrap64 (x7 + 1))) else (some ((⟨#[]⟩ : ByteArray), ([] : List ByteArray), t122)))) else (none)) else (if 0 < (x5.length : Int) then (if 1 ≤ (x5.length : Int) then (some (rdOf ByteArray.empty x5 0, (x5.drop (1 : Int).toNat), 0)) else (none)) else (none))
end
def cambiumref14_Split.f (k : Nat) (a0 : ByteArray) : Option (ByteArray × List ByteArray × Int) := if (a0.size : Int) > 200 then (some ((⟨#[]⟩ : ByteArray), ([] : List ByteArray), 7)) else (if a0.toList = ([] : List UInt8) then (cambiumref14_Split.j0 k a0 true) else (if 0 < (a0.size : Int) then (cambiumref14_Split.j0 k a0 ((bt a0 0) != 47)) else (none)))
theorem cambiumref14_Split.mono_l : ∀ k, (∀ y0 y1, LeO (cambiumref14_Split.j0 k y0 y1) (cambiumref14_Split.j0 (k + 1) y0 y1)) ∧ (∀ y0 y1, LeO (cambiumref14_Split.l0 k y0 y1) (cambiumref14_Split.l0 (k + 1) y0 y1))
 | 0 => ⟨fun _ _ r h => by simp [cambiumref14_Split.j0] at h, fun _ _ r h => by simp [cambiumref14_Split.l0] at h⟩
 | k + 1 => by
  obtain ⟨ih0, ih1⟩ := cambiumref14_Split.mono_l k
  refine ⟨?_, ?_⟩
  ·intro y0 y1
   unfold cambiumref14_Split.j0
   repeat' first
   | (with_reducible exact ih0 _ _)
   | (with_reducible exact ih1 _ _)
   | (with_reducible exact cambiumref07_Label.mono _ _)
   | (with_reducible exact cambiumref14_Parts.mono _ _)
   | (with_reducible exact cambiumref14_Valid.mono _ _)
   | (with_reducible exact LeO.refl _)
   | (with_reducible exact LeO.none _)
   | (with_reducible refine LeO.ite ?_ ?_)
   | (with_reducible refine LeO.bind ?_ (fun _ => ?_))
   | exact ih0 _ _
   | exact ih1 _ _
   | exact cambiumref07_Label.mono _ _
   | exact cambiumref14_Parts.mono _ _
   | exact cambiumref14_Valid.mono _ _
   | exact LeO.none _
   | refine LeO.ite ?_ ?_
   | refine LeO.bind ?_ (fun _ => ?_)
  ·intro y0 y1
   unfold cambiumref14_Split.l0
   repeat' first
   | (with_reducible exact ih0 _ _)
   | (with_reducible exact ih1 _ _)
   | (with_reducible exact cambiumref07_Label.mono _ _)
   | (with_reducible exact cambiumref14_Parts.mono _ _)
   | (with_reducible exact cambiumref14_Valid.mono _ _)
   | (with_reducible exact LeO.refl _)
   | (with_reducible exact LeO.none _)
   | (with_reducible refine LeO.ite ?_ ?_)
   | (with_reducible refine LeO.bind ?_ (fun _ => ?_))
   | exact ih0 _ _
   | exact ih1 _ _
   | exact cambiumref07_Label.mono _ _
   | exact cambiumref14_Parts.mono _ _
   | exact cambiumref14_Valid.mono _ _
   | exact LeO.none _
   | refine LeO.ite ?_ ?_
   | refine LeO.bind ?_ (fun _ => ?_)
theorem cambiumref14_Split.mono : ∀ a0 k, LeO (cambiumref14_Split.f k a0) (cambiumref14_Split.f (k + 1) a0) := by
 intro a0 k
 obtain ⟨ih0, ih1⟩ := cambiumref14_Split.mono_l k
 unfold cambiumref14_Split.f
 repeat' first
   | (with_reducible exact ih0 _ _)
   | (with_reducible exact ih1 _ _)
   | (with_reducible exact cambiumref07_Label.mono _ _)
   | (with_reducible exact cambiumref14_Parts.mono _ _)
   | (with_reducible exact cambiumref14_Valid.mono _ _)
   | (with_reducible exact LeO.refl _)
   | (with_reducible exact LeO.none _)
   | (with_reducible refine LeO.ite ?_ ?_)
   | (with_reducible refine LeO.bind ?_ (fun _ => ?_))
   | exact ih0 _ _
   | exact ih1 _ _
   | exact cambiumref07_Label.mono _ _
   | exact cambiumref14_Parts.mono _ _
   | exact cambiumref14_Valid.mono _ _
   | exact LeO.none _
   | refine LeO.ite ?_ ?_
   | refine LeO.bind ?_ (fun _ => ?_)
set_option maxHeartbeats 8000000 in
set_option maxRecDepth 100000 in
theorem cambiumref14_Split.calls (k : Nat) (a0 : ByteArray) (r1 : ByteArray) (r2 : List ByteArray) (r3 : Int) (w : World) (h : cambiumref14_Split.f k a0 = some (r1, r2, r3)) :
  Calls Tryd.prog 14 #[.string a0] w fun e w' => ∃ v1_ : Value, e = .returned (.tuple #[.string r1, v1_, .int .i64 r3]) ∧ Kd.Q Kd.string 9 w' w.heap.size (fun _ => True) v1_ r2 ∧ Below w.heap.size w w' := by
 have HB := Aside0.mk (Below.refl w.heap.size w)
 have H : (if (a0.size : Int) > 200 then (some ((⟨#[]⟩ : ByteArray), ([] : List ByteArray), 7)) else (if a0.toList = ([] : List UInt8) then (cambiumref14_Split.j0 k a0 true) else (if 0 < (a0.size : Int) then (cambiumref14_Split.j0 k a0 ((bt a0 0) != 47)) else (none)))) = some (r1, r2, r3) := h
 clear h
 by_cases c2 : (a0.size : Int) > 200
 ·rw [if_pos c2] at H
  have c2b0 : decide (200 < (a0.size : Int)) = true := decide_eq_true c2
  have c2b1 : decide (200 < a0.size) = true := decide_eq_true (by omega)
  clear c2
  simp only [Option.some.injEq, Prod.mk.injEq] at H
  obtain ⟨rfl, rfl, rfl⟩ := H
  go_enter Tryd.func14, Tryd.ntmps14
  go_wp2
  repeat (go_quiet (fail); try go_wp2)
  go_ret3
  exact ⟨_, by first | rfl | (simp [errW_none, errW_some] <;> rfl) | (simp [*, errW_none, errW_some] <;> rfl), Kd.Q_of_R q4_, by repeat (first | (with_reducible first | exact HB.out | apply below_alloc | apply pw_below_drewN | apply below_drew1) | exact HB.out)⟩
 ·rw [if_neg c2] at H
  have c2b0 : decide (200 < (a0.size : Int)) = false := decide_eq_false c2
  have c2b1 : decide (200 < a0.size) = false := decide_eq_false (by omega)
  clear c2
  have HC3 := Aside0.mk H
  clear H
  go_enter Tryd.func14, Tryd.ntmps14
  go_upto_region 3 with (fail)
  repeat (go_quiet (fail); go_upto_region 3 with (fail))
  go_cut [18] (fun v18 wc => ∃ (kq : Nat) (x18_2 : Bool), v18 = .bool x18_2 ∧ Aside0 (cambiumref14_Split.j0 kq a0 x18_2 = some (r1, r2, r3)) ∧ Aside0 (kq ≤ k) ∧ Aside0 (Below w.heap.size w wc))
  case first =>
   have H := HC3.out
   clear HC3
   by_cases c4 : a0.toList = ([] : List UInt8)
   ·rw [if_pos c4] at H
    have c4b0 : (a0.toList == ([] : List UInt8)) = true := beq_iff_eq.mpr c4
    have c4b1 : (a0.toList != ([] : List UInt8)) = false := bne_eq_false_iff_eq.mpr c4
    clear c4
    (first | rw [c4b0] | (simp only [i64_w, i32_w]; rw [c4b0]) | skip)
    have H' := Aside0.mk H
    clear H
    go_wp2
    repeat (go_quiet (fail); try go_wp2)
    go_meet
    case rel => exact ⟨_, (true), q2_, H', ⟨by first | omega | exact Nat.le_refl _⟩, ⟨q0_⟩⟩
   ·rw [if_neg c4] at H
    have c4b0 : (a0.toList == ([] : List UInt8)) = false := beq_eq_false_iff_ne.mpr c4
    have c4b1 : (a0.toList != ([] : List UInt8)) = true := bne_iff_ne.mpr c4
    (first | rw [c4b0] | (simp only [i64_w, i32_w]; rw [c4b0]) | skip)
    by_cases c5 : 0 < (a0.size : Int)
    ·rw [if_pos c5] at H
     have c5b0 : decide (0 < (a0.size : Int)) = true := decide_eq_true c5
     have c5b1 : decide (0 < a0.size) = true := decide_eq_true (by omega)
     clear c5
     have H' := Aside0.mk H
     clear H
     have p6 : 0 ≤ (0 : Int) := (by omega)
     have q6 : 0 < a0.size := (by have : (0 : Int) < (a0.size : Int) := of_decide_eq_true q1_; omega)
     have hx6 : ∀ h : 0 < a0.size, ((a0[0]'h).toNat : Int) = bt a0 0 := bt_at a0 0
     clear p6
     have qi6 : (0 < (a0.size : Int)) = True := eq_true (of_decide_eq_true q1_)
     replace q6 := eq_true q6
     go_wp2
     repeat (go_quiet (fail); try go_wp2)
     go_meet
     case rel => exact ⟨_, (((bt a0 0) != 47)), q2_, H', ⟨by first | omega | exact Nat.le_refl _⟩, ⟨q0_⟩⟩
    ·rw [if_neg c5] at H
     exact absurd H (by simp)
  case rest =>
   clear HC3
   try clear c1
   try clear c2
   try clear c2b0
   try clear c2b1
   try clear p2
   try clear c4
   try clear c4b0
   try clear c4b1
   try clear c5
   try clear c5b0
   try clear c5b1
   try clear p6
   try clear q6
   try clear hx6
   try clear qi6
   try clear p6
   try clear q6
   obtain ⟨kq, x18_2, rfl, HA, HJ2, HB⟩ := hcut
   cases kq with
   | zero => exact absurd (show none = some _ from HA.out) (by simp)
   | succ kj2 =>
    have H := HA.out
    clear HA
    simp only [cambiumref14_Split.j0] at H
    by_cases c7 : x18_2 = true
    ·subst c7
     have H1 : (some ((⟨#[]⟩ : ByteArray), ([] : List ByteArray), 12)) = some (r1, r2, r3) := by rw [if_pos rfl] at H; exact H
     clear H
     have H := H1
     clear H1
     simp only [Option.some.injEq, Prod.mk.injEq] at H
     obtain ⟨rfl, rfl, rfl⟩ := H
     go_wp2
     repeat (go_quiet (fail); try go_wp2)
     go_ret3
     exact ⟨_, by first | rfl | (simp [errW_none, errW_some] <;> rfl) | (simp [*, errW_none, errW_some] <;> rfl), Kd.Q_of_R q4_, by repeat (first | (with_reducible first | exact HB.out | apply below_alloc | apply pw_below_drewN | apply below_drew1) | exact HB.out)⟩
    ·replace c7 := Bool.eq_false_iff.mpr c7
     subst c7
     have H1 : (if a0.toList = ([47] : List UInt8) then (some ((⟨#[]⟩ : ByteArray), ([] : List ByteArray), 0)) else (if 1 ≤ (a0.size : Int) then ((cambiumref14_Parts.f kj2 (a0.extract 1 a0.size)).bind fun t116 => (if 0 < (t116.length : Int) then ((cambiumref07_Label.f kj2 (rdOf ByteArray.empty t116 0)).bind fun t120 => (if t120 = true then (cambiumref14_Split.l0 kj2 t116 1) else (some ((⟨#[]⟩ : ByteArray), ([] : List ByteArray), 12)))) else (none))) else (none))) = some (r1, r2, r3) := by rw [if_neg (show ¬ (false = true) by decide)] at H; exact H
     clear H
     have H := H1
     clear H1
     by_cases c8 : a0.toList = ([47] : List UInt8)
     ·rw [if_pos c8] at H
      have c8b0 : (a0.toList == ([47] : List UInt8)) = true := beq_iff_eq.mpr c8
      have c8b1 : (a0.toList != ([47] : List UInt8)) = false := bne_eq_false_iff_eq.mpr c8
      clear c8
      simp only [Option.some.injEq, Prod.mk.injEq] at H
      obtain ⟨rfl, rfl, rfl⟩ := H
      go_wp2
      repeat (go_quiet (fail); try go_wp2)
      go_ret3
      exact ⟨_, by first | rfl | (simp [errW_none, errW_some] <;> rfl) | (simp [*, errW_none, errW_some] <;> rfl), Kd.Q_of_R q4_, by repeat (first | (with_reducible first | exact HB.out | apply below_alloc | apply pw_below_drewN | apply below_drew1) | exact HB.out)⟩
     ·rw [if_neg c8] at H
      have c8b0 : (a0.toList == ([47] : List UInt8)) = false := beq_eq_false_iff_ne.mpr c8
      have c8b1 : (a0.toList != ([47] : List UInt8)) = true := bne_iff_ne.mpr c8
      by_cases c9 : 1 ≤ (a0.size : Int)
      ·rw [if_pos c9] at H
       have c9b0 := eq_true c9
       have c9b1 : decide (1 ≤ (a0.size : Int)) = true := decide_eq_true c9
       clear c9
       replace H := Option.bind_eq_some_iff.mp H
       obtain ⟨t116, A100, H⟩ := H
       replace H : (if 0 < (t116.length : Int) then ((cambiumref07_Label.f kj2 (rdOf ByteArray.empty t116 0)).bind fun t120 => (if t120 = true then (cambiumref14_Split.l0 kj2 t116 1) else (some ((⟨#[]⟩ : ByteArray), ([] : List ByteArray), 12)))) else (none)) = some (r1, r2, r3) := H
       have A10 := Aside0.mk A100
       clear A100
       by_cases c11 : 0 < (t116.length : Int)
       ·rw [if_pos c11] at H
        have c11b0 : decide (0 < (t116.length : Int)) = true := decide_eq_true c11
        have c11b1 : decide (0 < t116.length) = true := decide_eq_true (by omega)
        clear c11
        replace H := Option.bind_eq_some_iff.mp H
        obtain ⟨t120, A120, H⟩ := H
        replace H : (if t120 = true then (cambiumref14_Split.l0 kj2 t116 1) else (some ((⟨#[]⟩ : ByteArray), ([] : List ByteArray), 12))) = some (r1, r2, r3) := H
        have A12 := Aside0.mk A120
        clear A120
        by_cases c13 : t120 = true
        ·subst c13
         have H1 : (cambiumref14_Split.l0 kj2 t116 1) = some (r1, r2, r3) := by rw [if_pos rfl] at H; exact H
         clear H
         have H := H1
         clear H1
         have H' := Aside0.mk H
         clear H
         go_wp2_with (first | (go_at_call 26; (with_reducible refine (cambiumref14_Parts.calls kj2 (a0.extract 1 a0.size) t116 _ A10.out).mono ?_); rintro e w14 ⟨v117, rfl, ho0, hb⟩; have n0_ := Aside0.mk (Kd.R_lower ho0 (below_size q0_)); have n1_ := Aside0.mk (below_step q0_ hb); clear HB; have HO118 := n0_; have HB := n1_; clear n0_ n1_; (try clear hb); (try clear hb2); (try clear hk); (try clear hi); (try clear ho0); obtain ⟨Ao15, co15, eo15⟩ := Kd.R_slice HO118.out; subst eo15; have p119 : 0 ≤ (0 : Int) := (by omega); have q119 : 0 < (t116.length : Int) := of_decide_eq_true q1_; obtain ⟨ad119, e119, hx119_0⟩ := Kd.at_string (Kd.R_reads' HO118.out).2.2 0 p119 q119; cases e119; have qi119 : (0 < t116.length) = True := eq_true (by omega); (try rw [show ((0 : Int)).toNat = 0 from rfl] at hx119_0); (try rw [Addr.add_zero'] at hx119_0); replace p119 := eq_true p119; replace q119 := eq_true q119) | (go_at_call 19; (with_reducible refine (cambiumref07_Label.calls kj2 (rdOf ByteArray.empty t116 0) true _ A12.out).mono ?_); rintro e w' ⟨rfl, ⟨nd, rfl⟩⟩; (try first | exact ⟨rfl, _, World.drewN_drewN _ _ _⟩ | exact ⟨rfl, _, Eq.trans (World.drewN_drewN _ _ _) (congrArg (World.drewN _) (Nat.add_assoc _ _ _))⟩)))
         repeat (go_quiet (first | (go_at_call 26; (with_reducible refine (cambiumref14_Parts.calls kj2 (a0.extract 1 a0.size) t116 _ A10.out).mono ?_); rintro e w14 ⟨v117, rfl, ho0, hb⟩; have n0_ := Aside0.mk (Kd.R_lower ho0 (below_size q0_)); have n1_ := Aside0.mk (below_step q0_ hb); clear HB; have HO118 := n0_; have HB := n1_; clear n0_ n1_; (try clear hb); (try clear hb2); (try clear hk); (try clear hi); (try clear ho0); obtain ⟨Ao15, co15, eo15⟩ := Kd.R_slice HO118.out; subst eo15; have p119 : 0 ≤ (0 : Int) := (by omega); have q119 : 0 < (t116.length : Int) := of_decide_eq_true q1_; obtain ⟨ad119, e119, hx119_0⟩ := Kd.at_string (Kd.R_reads' HO118.out).2.2 0 p119 q119; cases e119; have qi119 : (0 < t116.length) = True := eq_true (by omega); (try rw [show ((0 : Int)).toNat = 0 from rfl] at hx119_0); (try rw [Addr.add_zero'] at hx119_0); replace p119 := eq_true p119; replace q119 := eq_true q119) | (go_at_call 19; (with_reducible refine (cambiumref07_Label.calls kj2 (rdOf ByteArray.empty t116 0) true _ A12.out).mono ?_); rintro e w' ⟨rfl, ⟨nd, rfl⟩⟩; (try first | exact ⟨rfl, _, World.drewN_drewN _ _ _⟩ | exact ⟨rfl, _, Eq.trans (World.drewN_drewN _ _ _) (congrArg (World.drewN _) (Nat.add_assoc _ _ _))⟩))); try go_wp2_with (first | (go_at_call 26; (with_reducible refine (cambiumref14_Parts.calls kj2 (a0.extract 1 a0.size) t116 _ A10.out).mono ?_); rintro e w14 ⟨v117, rfl, ho0, hb⟩; have n0_ := Aside0.mk (Kd.R_lower ho0 (below_size q0_)); have n1_ := Aside0.mk (below_step q0_ hb); clear HB; have HO118 := n0_; have HB := n1_; clear n0_ n1_; (try clear hb); (try clear hb2); (try clear hk); (try clear hi); (try clear ho0); obtain ⟨Ao15, co15, eo15⟩ := Kd.R_slice HO118.out; subst eo15; have p119 : 0 ≤ (0 : Int) := (by omega); have q119 : 0 < (t116.length : Int) := of_decide_eq_true q1_; obtain ⟨ad119, e119, hx119_0⟩ := Kd.at_string (Kd.R_reads' HO118.out).2.2 0 p119 q119; cases e119; have qi119 : (0 < t116.length) = True := eq_true (by omega); (try rw [show ((0 : Int)).toNat = 0 from rfl] at hx119_0); (try rw [Addr.add_zero'] at hx119_0); replace p119 := eq_true p119; replace q119 := eq_true q119) | (go_at_call 19; (with_reducible refine (cambiumref07_Label.calls kj2 (rdOf ByteArray.empty t116 0) true _ A12.out).mono ?_); rintro e w' ⟨rfl, ⟨nd, rfl⟩⟩; (try first | exact ⟨rfl, _, World.drewN_drewN _ _ _⟩ | exact ⟨rfl, _, Eq.trans (World.drewN_drewN _ _ _) (congrArg (World.drewN _) (Nat.add_assoc _ _ _))⟩))))
         go_loopg [7] kj2 (fun kq v7 w' => ∃ (x7_2 : Int), v7 = .int .i64 x7_2 ∧ Aside0 (cambiumref14_Split.l0 kq t116 x7_2 = some (r1, r2, r3)) ∧ Aside0 (kq ≤ kj2) ∧ Aside0 (Kd.R Kd.string 9 w' w.heap.size (fun _ => True) (.slice (some ad119) t116.length co15) t116) ∧ Aside0 (Below w.heap.size w w'))
         case atStart => exact ⟨(1), q2_, H', ⟨Nat.le_refl _⟩, ⟨by (with_reducible repeat (first | apply Kd.R_alloc | apply Kd.R_drewN | apply Kd.R_drew)); exact HO118.out⟩, ⟨q0_⟩⟩
         case round =>
          clear H'
          try clear c1
          try clear p1
          try clear q1
          try clear hx1
          try clear qi1
          try clear c2
          try clear c2b0
          try clear c2b1
          try clear p2
          try clear c4
          try clear c4b0
          try clear c4b1
          try clear c5
          try clear c5b0
          try clear c5b1
          try clear p6
          try clear q6
          try clear hx6
          try clear qi6
          try clear c7
          try clear c8
          try clear c8b0
          try clear c8b1
          try clear c9
          try clear c9b0
          try clear c9b1
          try clear c11
          try clear c11b0
          try clear c11b1
          try clear p11
          try clear q11
          try clear hx11
          try clear qi11
          try clear c13
          try clear c14
          try clear hx119_0
          try clear p119
          try clear p2
          try clear p6
          try clear q119
          try clear q6
          obtain ⟨x7_2, rfl, HA, HK2, HO_5, HB⟩ := hrel
          cases gk with
          | zero => exact absurd (show none = some _ from HA.out) (by simp)
          | succ k2 =>
           have H := HA.out
           clear HA
           simp only [cambiumref14_Split.l0] at H
           by_cases c16 : x7_2 < (t116.length : Int)
           ·rw [if_pos c16] at H
            have c16b0 : decide (x7_2 < (t116.length : Int)) = true := decide_eq_true c16
            clear c16
            by_cases c17 : 0 ≤ x7_2
            ·rw [if_pos c17] at H
             have c17b0 : decide (0 ≤ x7_2) = true := decide_eq_true c17
             clear c17
             replace H := Option.bind_eq_some_iff.mp H
             obtain ⟨t122, A180, H⟩ := H
             replace H : (if t122 = 0 then (cambiumref14_Split.l0 k2 t116 (wrap64 (x7_2 + 1))) else (some ((⟨#[]⟩ : ByteArray), ([] : List ByteArray), t122))) = some (r1, r2, r3) := H
             have A18 := Aside0.mk A180
             clear A180
             by_cases c19 : t122 = 0
             ·rw [if_pos c19] at H
              have c19b0 : (t122 == 0) = true := beq_iff_eq.mpr c19
              have c19b1 : (t122 != 0) = false := bne_eq_false_iff_eq.mpr c19
              clear c19
              have H' := Aside0.mk H
              clear H
              have p121 : 0 ≤ (x7_2 : Int) := of_decide_eq_true q1_
              have q121 : x7_2 < (t116.length : Int) := of_decide_eq_true q1_
              obtain ⟨ad121, e121, hx121_0⟩ := Kd.at_string (Kd.R_reads' HO_5.out).2.2 x7_2 p121 q121
              obtain rfl : ad119 = ad121 := (by injection e121)
              replace p121 := eq_true p121
              replace q121 := eq_true q121
              go_wp2_with (first | (go_at_call 12; (with_reducible refine (cambiumref14_Valid.calls k2 (rdOf ByteArray.empty t116 x7_2) t122 _ A18.out).mono ?_); rintro e w' ⟨rfl, ⟨nd, rfl⟩⟩; (try first | exact ⟨rfl, _, World.drewN_drewN _ _ _⟩ | exact ⟨rfl, _, Eq.trans (World.drewN_drewN _ _ _) (congrArg (World.drewN _) (Nat.add_assoc _ _ _))⟩)))
              repeat (go_quiet (first | (go_at_call 12; (with_reducible refine (cambiumref14_Valid.calls k2 (rdOf ByteArray.empty t116 x7_2) t122 _ A18.out).mono ?_); rintro e w' ⟨rfl, ⟨nd, rfl⟩⟩; (try first | exact ⟨rfl, _, World.drewN_drewN _ _ _⟩ | exact ⟨rfl, _, Eq.trans (World.drewN_drewN _ _ _) (congrArg (World.drewN _) (Nat.add_assoc _ _ _))⟩))); try go_wp2_with (first | (go_at_call 12; (with_reducible refine (cambiumref14_Valid.calls k2 (rdOf ByteArray.empty t116 x7_2) t122 _ A18.out).mono ?_); rintro e w' ⟨rfl, ⟨nd, rfl⟩⟩; (try first | exact ⟨rfl, _, World.drewN_drewN _ _ _⟩ | exact ⟨rfl, _, Eq.trans (World.drewN_drewN _ _ _) (congrArg (World.drewN _) (Nat.add_assoc _ _ _))⟩))))
              go_roundg k2
              case measure => have := HJ2.out; have := HK2.out; omega
              case rel => exact ⟨(wrap64 (x7_2 + 1)), q2_, H', ⟨by have := HJ2.out; have := HK2.out; omega⟩, ⟨by (with_reducible repeat (first | apply Kd.R_alloc | apply Kd.R_drewN | apply Kd.R_drew)); exact HO_5.out⟩, ⟨q0_⟩⟩
             ·rw [if_neg c19] at H
              have c19b0 : (t122 == 0) = false := beq_eq_false_iff_ne.mpr c19
              have c19b1 : (t122 != 0) = true := bne_iff_ne.mpr c19
              simp only [Option.some.injEq, Prod.mk.injEq] at H
              obtain ⟨rfl, rfl, rfl⟩ := H
              have p121 : 0 ≤ (x7_2 : Int) := of_decide_eq_true q1_
              have q121 : x7_2 < (t116.length : Int) := of_decide_eq_true q1_
              obtain ⟨ad121, e121, hx121_0⟩ := Kd.at_string (Kd.R_reads' HO_5.out).2.2 x7_2 p121 q121
              obtain rfl : ad119 = ad121 := (by injection e121)
              replace p121 := eq_true p121
              replace q121 := eq_true q121
              go_wp2_with (first | (go_at_call 12; (with_reducible refine (cambiumref14_Valid.calls k2 (rdOf ByteArray.empty t116 x7_2) t122 _ A18.out).mono ?_); rintro e w' ⟨rfl, ⟨nd, rfl⟩⟩; (try first | exact ⟨rfl, _, World.drewN_drewN _ _ _⟩ | exact ⟨rfl, _, Eq.trans (World.drewN_drewN _ _ _) (congrArg (World.drewN _) (Nat.add_assoc _ _ _))⟩)))
              repeat (go_quiet (first | (go_at_call 12; (with_reducible refine (cambiumref14_Valid.calls k2 (rdOf ByteArray.empty t116 x7_2) t122 _ A18.out).mono ?_); rintro e w' ⟨rfl, ⟨nd, rfl⟩⟩; (try first | exact ⟨rfl, _, World.drewN_drewN _ _ _⟩ | exact ⟨rfl, _, Eq.trans (World.drewN_drewN _ _ _) (congrArg (World.drewN _) (Nat.add_assoc _ _ _))⟩))); try go_wp2_with (first | (go_at_call 12; (with_reducible refine (cambiumref14_Valid.calls k2 (rdOf ByteArray.empty t116 x7_2) t122 _ A18.out).mono ?_); rintro e w' ⟨rfl, ⟨nd, rfl⟩⟩; (try first | exact ⟨rfl, _, World.drewN_drewN _ _ _⟩ | exact ⟨rfl, _, Eq.trans (World.drewN_drewN _ _ _) (congrArg (World.drewN _) (Nat.add_assoc _ _ _))⟩))))
              go_ret3
              exact ⟨_, by first | rfl | (simp [errW_none, errW_some] <;> rfl) | (simp [*, errW_none, errW_some] <;> rfl), Kd.Q_of_R q4_, by repeat (first | (with_reducible first | exact HB.out | apply below_alloc | apply pw_below_drewN | apply below_drew1) | exact HB.out)⟩
            ·rw [if_neg c17] at H
             exact absurd H (by simp)
           ·rw [if_neg c16] at H
            have c16b0 : decide (x7_2 < (t116.length : Int)) = false := decide_eq_false c16
            clear c16
            by_cases c20 : 0 < (t116.length : Int)
            ·rw [if_pos c20] at H
             have c20b0 : decide (0 < (t116.length : Int)) = true := decide_eq_true c20
             have c20b1 : decide (0 < t116.length) = true := decide_eq_true (by omega)
             clear c20
             by_cases c21 : 1 ≤ (t116.length : Int)
             ·rw [if_pos c21] at H
              have c21b0 := eq_true c21
              have c21b1 : decide (1 ≤ (t116.length : Int)) = true := decide_eq_true c21
              clear c21
              obtain ⟨y124, hy124⟩ : ∃ y_ : List ByteArray, y_ = (t116.drop (1 : Int).toNat) := ⟨_, rfl⟩
              replace H : (some (rdOf ByteArray.empty t116 0, y124, 0)) = some (r1, r2, r3) := by first | (rw [hy124]; with_reducible exact H) | (have H2_ := (Option.bind_some _ _).symm.trans H; rw [hy124]; with_reducible exact H2_) | (have H2_ := (Option.bind_some _ _).symm.trans H; with_reducible exact H2_) | with_reducible exact H | (rw [hy124]; exact H) | exact H
              have Ny124 := Aside0.mk hy124
              clear hy124
              simp only [Option.some.injEq, Prod.mk.injEq] at H
              obtain ⟨rfl, rfl, rfl⟩ := H
              have p123 : 0 ≤ (0 : Int) := (by omega)
              have q123 : 0 < (t116.length : Int) := of_decide_eq_true q1_
              obtain ⟨ad123, e123, hx123_0⟩ := Kd.at_string (Kd.R_reads' HO_5.out).2.2 0 p123 q123
              obtain rfl : ad119 = ad123 := (by injection e123)
              have qi123 : (0 < t116.length) = True := eq_true (by omega)
              (try rw [show ((0 : Int)).toNat = 0 from rfl] at hx123_0)
              (try rw [Addr.add_zero'] at hx123_0)
              replace p123 := eq_true p123
              replace q123 := eq_true q123
              have q22 : (1 : Int) ≤ ((t116.length : Int) : Int) := of_decide_eq_true q1_
              obtain ⟨i022, hi022, _, hsz22, _⟩ := info_parts info9
              have hcut22 := cut_from (P := Tryd.prog) 26 9 .i64 Tryd.underlying26 hi022 1 hsz22 (some ad119) t116.length co15 1 (by omega) q22
              have hr22 := Kd.Q_drop (k := (1 : Int).toNat) (Kd.Q_of_R HO_5.out) (by omega)
              obtain ⟨A22, hA22⟩ : ∃ A1, A1 = (if co15 = (1 : Int).toNat then (some ad119) else ((some ad119) : Option Addr).map (·.add ((1 : Int).toNat * 1))) := ⟨_, rfl⟩
              obtain ⟨c22, hc22⟩ : ∃ c1, c1 = co15 - (1 : Int).toNat := ⟨_, rfl⟩
              have hy22 : y124.length = t116.length - (1 : Int).toNat := (by rw [Ny124.out, List.length_drop])
              rw [← Ny124.out] at hr22
              rw [← hy22, ← hA22, ← hc22] at hcut22
              replace hr22 : Kd.Q Kd.string 9 wr w.heap.size (fun _ => True) (.slice A22 y124.length c22) y124 := (by rw [hA22, hc22, hy22]; exact hr22)
              have HE22 : Aside0 ((Value.slice A22 y124.length c22).ownBlock = (.slice (some ad119) t116.length co15 : Value).ownBlock) := ⟨by rw [hA22]; split <;> (cases ((some ad119) : Option Addr) <;> rfl)⟩
              clear hy22 hi022 hsz22 HO_5 hA22 hc22
              have HO126 := Aside0.mk hr22
              clear hr22
              replace q22 := eq_true q22
              go_wp2
              repeat (go_quiet (fail); try go_wp2)
              go_ret3
              exact ⟨_, by first | rfl | (simp [errW_none, errW_some] <;> rfl) | (simp [*, errW_none, errW_some] <;> rfl), by (with_reducible repeat (first | apply Kd.Q_alloc | apply Kd.Q_drewN | apply Kd.Q_drew)); exact HO126.out, by repeat (first | (with_reducible first | exact HB.out | apply below_alloc | apply pw_below_drewN | apply below_drew1) | exact HB.out)⟩
             ·rw [if_neg c21] at H
              exact absurd H (by simp)
            ·rw [if_neg c20] at H
             exact absurd H (by simp)
        ·replace c13 := Bool.eq_false_iff.mpr c13
         subst c13
         have H1 : (some ((⟨#[]⟩ : ByteArray), ([] : List ByteArray), 12)) = some (r1, r2, r3) := by rw [if_neg (show ¬ (false = true) by decide)] at H; exact H
         clear H
         have H := H1
         clear H1
         simp only [Option.some.injEq, Prod.mk.injEq] at H
         obtain ⟨rfl, rfl, rfl⟩ := H
         go_wp2_with (first | (go_at_call 26; (with_reducible refine (cambiumref14_Parts.calls kj2 (a0.extract 1 a0.size) t116 _ A10.out).mono ?_); rintro e w23 ⟨v117, rfl, ho0, hb⟩; have n0_ := Aside0.mk (Kd.R_lower ho0 (below_size q0_)); have n1_ := Aside0.mk (below_step q0_ hb); clear HB; have HO118 := n0_; have HB := n1_; clear n0_ n1_; (try clear hb); (try clear hb2); (try clear hk); (try clear hi); (try clear ho0); obtain ⟨Ao24, co24, eo24⟩ := Kd.R_slice HO118.out; subst eo24; have p119 : 0 ≤ (0 : Int) := (by omega); have q119 : 0 < (t116.length : Int) := of_decide_eq_true q1_; obtain ⟨ad119, e119, hx119_0⟩ := Kd.at_string (Kd.R_reads' HO118.out).2.2 0 p119 q119; cases e119; have qi119 : (0 < t116.length) = True := eq_true (by omega); (try rw [show ((0 : Int)).toNat = 0 from rfl] at hx119_0); (try rw [Addr.add_zero'] at hx119_0); replace p119 := eq_true p119; replace q119 := eq_true q119) | (go_at_call 19; (with_reducible refine (cambiumref07_Label.calls kj2 (rdOf ByteArray.empty t116 0) false _ A12.out).mono ?_); rintro e w' ⟨rfl, ⟨nd, rfl⟩⟩; (try first | exact ⟨rfl, _, World.drewN_drewN _ _ _⟩ | exact ⟨rfl, _, Eq.trans (World.drewN_drewN _ _ _) (congrArg (World.drewN _) (Nat.add_assoc _ _ _))⟩)))
         repeat (go_quiet (first | (go_at_call 26; (with_reducible refine (cambiumref14_Parts.calls kj2 (a0.extract 1 a0.size) t116 _ A10.out).mono ?_); rintro e w23 ⟨v117, rfl, ho0, hb⟩; have n0_ := Aside0.mk (Kd.R_lower ho0 (below_size q0_)); have n1_ := Aside0.mk (below_step q0_ hb); clear HB; have HO118 := n0_; have HB := n1_; clear n0_ n1_; (try clear hb); (try clear hb2); (try clear hk); (try clear hi); (try clear ho0); obtain ⟨Ao24, co24, eo24⟩ := Kd.R_slice HO118.out; subst eo24; have p119 : 0 ≤ (0 : Int) := (by omega); have q119 : 0 < (t116.length : Int) := of_decide_eq_true q1_; obtain ⟨ad119, e119, hx119_0⟩ := Kd.at_string (Kd.R_reads' HO118.out).2.2 0 p119 q119; cases e119; have qi119 : (0 < t116.length) = True := eq_true (by omega); (try rw [show ((0 : Int)).toNat = 0 from rfl] at hx119_0); (try rw [Addr.add_zero'] at hx119_0); replace p119 := eq_true p119; replace q119 := eq_true q119) | (go_at_call 19; (with_reducible refine (cambiumref07_Label.calls kj2 (rdOf ByteArray.empty t116 0) false _ A12.out).mono ?_); rintro e w' ⟨rfl, ⟨nd, rfl⟩⟩; (try first | exact ⟨rfl, _, World.drewN_drewN _ _ _⟩ | exact ⟨rfl, _, Eq.trans (World.drewN_drewN _ _ _) (congrArg (World.drewN _) (Nat.add_assoc _ _ _))⟩))); try go_wp2_with (first | (go_at_call 26; (with_reducible refine (cambiumref14_Parts.calls kj2 (a0.extract 1 a0.size) t116 _ A10.out).mono ?_); rintro e w23 ⟨v117, rfl, ho0, hb⟩; have n0_ := Aside0.mk (Kd.R_lower ho0 (below_size q0_)); have n1_ := Aside0.mk (below_step q0_ hb); clear HB; have HO118 := n0_; have HB := n1_; clear n0_ n1_; (try clear hb); (try clear hb2); (try clear hk); (try clear hi); (try clear ho0); obtain ⟨Ao24, co24, eo24⟩ := Kd.R_slice HO118.out; subst eo24; have p119 : 0 ≤ (0 : Int) := (by omega); have q119 : 0 < (t116.length : Int) := of_decide_eq_true q1_; obtain ⟨ad119, e119, hx119_0⟩ := Kd.at_string (Kd.R_reads' HO118.out).2.2 0 p119 q119; cases e119; have qi119 : (0 < t116.length) = True := eq_true (by omega); (try rw [show ((0 : Int)).toNat = 0 from rfl] at hx119_0); (try rw [Addr.add_zero'] at hx119_0); replace p119 := eq_true p119; replace q119 := eq_true q119) | (go_at_call 19; (with_reducible refine (cambiumref07_Label.calls kj2 (rdOf ByteArray.empty t116 0) false _ A12.out).mono ?_); rintro e w' ⟨rfl, ⟨nd, rfl⟩⟩; (try first | exact ⟨rfl, _, World.drewN_drewN _ _ _⟩ | exact ⟨rfl, _, Eq.trans (World.drewN_drewN _ _ _) (congrArg (World.drewN _) (Nat.add_assoc _ _ _))⟩))))
         go_ret3
         exact ⟨_, by first | rfl | (simp [errW_none, errW_some] <;> rfl) | (simp [*, errW_none, errW_some] <;> rfl), Kd.Q_of_R q4_, by repeat (first | (with_reducible first | exact HB.out | apply below_alloc | apply pw_below_drewN | apply below_drew1) | exact HB.out)⟩
       ·rw [if_neg c11] at H
        exact absurd H (by simp)
      ·rw [if_neg c9] at H
       exact absurd H (by simp)

end Go.Proofs.YtafgfaimenccdaaDoor.P
