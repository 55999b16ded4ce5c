/- Functions and contracts, written by a program (mkprint.py, a wrapper of ours around the print); texts between GIVEN marks are ours. -/
import Derived.Test.YtafgfaimenccdaaDoorPx0
namespace Go.Proofs.YtafgfaimenccdaaDoor.P
open Go.RowKit Go.Proofs.YtafgfaimenccdaaDoorW.PrintWords Go.Proofs.YtafgfaimenccdaaDoorW.PrintLast Go.Proofs.YtafgfaimenccdaaDoorW.PrintMore
attribute [local go_sem] max2_int min2_int max_two min_two max_three min_three max_four min_four   -- for this text's walks alone
set_option linter.unusedVariables false
set_option linter.unusedSimpArgs false

/-! ### cambiumref14_SameNames: function 15 -/
def cambiumref14_SameNames.l0 : Nat → List ByteArray → List ByteArray → Int → Option (Bool)
 | 0, _, _, _ => none
 | k + 1, x0, x1, x5 => if x5 < (x0.length : Int) then (if 0 ≤ x5 then (if x5 < (x1.length : Int) then (if (rdOf ByteArray.empty x0 x5).toList = (rdOf ByteArray.empty x1 x5).toList then (cambiumref14_SameNames.l0 k x0 x1 (wrap64 (x5 + 1))) else (some false)) else (none)) else (none)) else (some true)
def cambiumref14_SameNames.f (k : Nat) (l0 : List ByteArray) (l1 : List ByteArray) : Option (Bool) := if (l0.length : Int) = (l1.length : Int) then (cambiumref14_SameNames.l0 k l0 l1 0) else (some false)
theorem cambiumref14_SameNames.mono_l : ∀ k, (∀ y0 y1 y2, LeO (cambiumref14_SameNames.l0 k y0 y1 y2) (cambiumref14_SameNames.l0 (k + 1) y0 y1 y2))
 | 0 => fun _ _ _ r h => absurd (show none = some r from h) (by simp)
 | k + 1 => by
  have ih0 := cambiumref14_SameNames.mono_l k
  ·intro y0 y1 y2
   unfold cambiumref14_SameNames.l0
   repeat' first
   | (with_reducible exact ih0 _ _ _)
   | (with_reducible exact LeO.refl _)
   | (with_reducible exact LeO.none _)
   | (with_reducible refine LeO.ite ?_ ?_)
   | (with_reducible refine LeO.bind ?_ (fun _ => ?_))
   | exact ih0 _ _ _
   | exact LeO.none _
   | refine LeO.ite ?_ ?_
   | refine LeO.bind ?_ (fun _ => ?_)
theorem cambiumref14_SameNames.mono : ∀ a0 a1 k, LeO (cambiumref14_SameNames.f k a0 a1) (cambiumref14_SameNames.f (k + 1) a0 a1) := by
 intro a0 a1 k
 have ih0 := cambiumref14_SameNames.mono_l k
 unfold cambiumref14_SameNames.f
 repeat' first
   | (with_reducible exact ih0 _ _ _)
   | (with_reducible exact LeO.refl _)
   | (with_reducible exact LeO.none _)
   | (with_reducible refine LeO.ite ?_ ?_)
   | (with_reducible refine LeO.bind ?_ (fun _ => ?_))
   | exact ih0 _ _ _
   | exact LeO.none _
   | refine LeO.ite ?_ ?_
   | refine LeO.bind ?_ (fun _ => ?_)
set_option maxHeartbeats 8000000 in
set_option maxRecDepth 100000 in
theorem cambiumref14_SameNames.calls (k : Nat) (A0 : Option Addr) (c0 : Nat) (l0 : List ByteArray) (A1 : Option Addr) (c1 : Nat) (l1 : List ByteArray) (r : Bool) (w : World) (hr0 : Kd.C Kd.string w A0 l0.length l0) (hc0 : l0.length ≤ c0) (hr1 : Kd.C Kd.string w A1 l1.length l1) (hc1 : l1.length ≤ c1) (h : cambiumref14_SameNames.f k l0 l1 = some r) :
  Calls Tryd.prog 15 #[.slice A0 l0.length c0, .slice A1 l1.length c1] w fun e w' => e = .returned (.bool r) ∧ Drawn0 w w' := by
 have HR0 := Aside0.mk hr0
 have HC0 := Aside0.mk hc0
 clear hr0 hc0
 have HR1 := Aside0.mk hr1
 have HC1 := Aside0.mk hc1
 clear hr1 hc1
 have H : (if (l0.length : Int) = (l1.length : Int) then (cambiumref14_SameNames.l0 k l0 l1 0) else (some false)) = some r := h
 clear h
 by_cases c3 : (l0.length : Int) = (l1.length : Int)
 ·rw [if_pos c3] at H
  have c3b0 : ((l0.length : Int) == (l1.length : Int)) = true := beq_iff_eq.mpr c3
  have c3b1 : ((l0.length : Int) != (l1.length : Int)) = false := bne_eq_false_iff_eq.mpr c3
  have c3b2 : (l0.length == l1.length) = true := by first | simpa using c3 | (simp at c3 ⊢; omega)
  clear c3
  have H' := Aside0.mk H
  clear H
  go_enter Tryd.func15, Tryd.ntmps15
  go_wp2
  repeat (go_quiet (fail); try go_wp2)
  go_loopg [5] k (fun kq v5 w' => ∃ (x5_1 : Int), v5 = .int .i64 x5_1 ∧ Aside0 (cambiumref14_SameNames.l0 kq l0 l1 x5_1 = some r) ∧ Aside0 (kq ≤ k) ∧ Drawn0 w w')
  case atStart => exact ⟨(0), q2_, H', ⟨Nat.le_refl _⟩, by repeat (first | exact Drawn0.refl _ | apply Drawn0.step)⟩
  case round =>
   clear H'
   try clear c1
   try clear p2
   try clear c3
   try clear c3b0
   try clear c3b1
   try clear c3b2
   obtain ⟨x5_1, rfl, HA, HK1, ⟨m1, rfl⟩⟩ := hrel
   cases gk with
   | zero => exact absurd (show none = some _ from HA.out) (by simp)
   | succ k1 =>
    have H := HA.out
    clear HA
    simp only [cambiumref14_SameNames.l0] at H
    by_cases c4 : x5_1 < (l0.length : Int)
    ·rw [if_pos c4] at H
     have c4b0 : decide (x5_1 < (l0.length : Int)) = true := decide_eq_true c4
     clear c4
     by_cases c5 : 0 ≤ x5_1
     ·rw [if_pos c5] at H
      have c5b0 : decide (0 ≤ x5_1) = true := decide_eq_true c5
      clear c5
      by_cases c6 : x5_1 < (l1.length : Int)
      ·rw [if_pos c6] at H
       have c6b0 : decide (x5_1 < (l1.length : Int)) = true := decide_eq_true c6
       clear c6
       by_cases c7 : (rdOf ByteArray.empty l0 x5_1).toList = (rdOf ByteArray.empty l1 x5_1).toList
       ·rw [if_pos c7] at H
        have c7b0 : ((rdOf ByteArray.empty l0 x5_1).toList == (rdOf ByteArray.empty l1 x5_1).toList) = true := beq_iff_eq.mpr c7
        have c7b1 : ((rdOf ByteArray.empty l0 x5_1).toList != (rdOf ByteArray.empty l1 x5_1).toList) = false := bne_eq_false_iff_eq.mpr c7
        clear c7
        have H' := Aside0.mk H
        clear H
        have p127 : 0 ≤ (x5_1 : Int) := of_decide_eq_true q1_
        have q127 : x5_1 < (l0.length : Int) := of_decide_eq_true q1_
        obtain ⟨ad127, e127, hx127_0⟩ := Kd.at_string HR0.out x5_1 p127 q127
        cases e127
        replace p127 := eq_true p127
        replace q127 := eq_true q127
        have p128 : 0 ≤ (x5_1 : Int) := of_decide_eq_true q1_
        have q128 : x5_1 < (l1.length : Int) := of_decide_eq_true q1_
        obtain ⟨ad128, e128, hx128_0⟩ := Kd.at_string HR1.out x5_1 p128 q128
        cases e128
        replace p128 := eq_true p128
        replace q128 := eq_true q128
        go_wp2
        repeat (go_quiet (fail); try go_wp2)
        go_roundg k1
        case measure => have := HK1.out; omega
        case rel => exact ⟨(wrap64 (x5_1 + 1)), q2_, H', ⟨by have := HK1.out; omega⟩, by repeat (first | exact Drawn0.refl _ | apply Drawn0.step)⟩
       ·rw [if_neg c7] at H
        have c7b0 : ((rdOf ByteArray.empty l0 x5_1).toList == (rdOf ByteArray.empty l1 x5_1).toList) = false := beq_eq_false_iff_ne.mpr c7
        have c7b1 : ((rdOf ByteArray.empty l0 x5_1).toList != (rdOf ByteArray.empty l1 x5_1).toList) = true := bne_iff_ne.mpr c7
        obtain rfl := Option.some.inj H
        have p127 : 0 ≤ (x5_1 : Int) := of_decide_eq_true q1_
        have q127 : x5_1 < (l0.length : Int) := of_decide_eq_true q1_
        obtain ⟨ad127, e127, hx127_0⟩ := Kd.at_string HR0.out x5_1 p127 q127
        cases e127
        replace p127 := eq_true p127
        replace q127 := eq_true q127
        have p128 : 0 ≤ (x5_1 : Int) := of_decide_eq_true q1_
        have q128 : x5_1 < (l1.length : Int) := of_decide_eq_true q1_
        obtain ⟨ad128, e128, hx128_0⟩ := Kd.at_string HR1.out x5_1 p128 q128
        cases e128
        replace p128 := eq_true p128
        replace q128 := eq_true q128
        go_wp2
        repeat (go_quiet (fail); try go_wp2)
        go_ret
        exact ⟨q2_, by repeat (first | exact Drawn0.refl _ | apply Drawn0.step)⟩
      ·rw [if_neg c6] at H
       exact absurd H (by simp)
     ·rw [if_neg c5] at H
      exact absurd H (by simp)
    ·rw [if_neg c4] at H
     have c4b0 : decide (x5_1 < (l0.length : Int)) = false := decide_eq_false c4
     clear c4
     obtain rfl := Option.some.inj H
     go_wp2
     repeat (go_quiet (fail); try go_wp2)
     go_ret
     exact ⟨q2_, by repeat (first | exact Drawn0.refl _ | apply Drawn0.step)⟩
 ·rw [if_neg c3] at H
  have c3b0 : ((l0.length : Int) == (l1.length : Int)) = false := beq_eq_false_iff_ne.mpr c3
  have c3b1 : ((l0.length : Int) != (l1.length : Int)) = true := bne_iff_ne.mpr c3
  have c3b2 : (l0.length == l1.length) = false := by first | simpa using c3 | (simp at c3 ⊢; omega)
  obtain rfl := Option.some.inj H
  go_enter Tryd.func15, Tryd.ntmps15
  go_wp2
  repeat (go_quiet (fail); try go_wp2)
  go_ret
  exact ⟨q2_, by repeat (first | exact Drawn0.refl _ | apply Drawn0.step)⟩

-- NOT PRINTED: function 4 (cambiumlaw14_NameSplits)

/-! ### cambiumlaw14_few: function 16 -/
def cambiumlaw14_few.f (l0 : List ByteArray) : Option (List ByteArray) := if (l0.length : Int) > 30 then (if 30 ≤ (l0.length : Int) then (some (l0.take 30)) else (none)) else (some l0)
set_option maxHeartbeats 8000000 in
set_option maxRecDepth 100000 in
theorem cambiumlaw14_few.calls (P0_ : Nat → Prop) (A0 : Option Addr) (c0 : Nat) (l0 : List ByteArray) (r : List ByteArray) (w : World) (hs0 : Kd.V Kd.string 9 w w.heap.size (fun k_ => P0_ k_) (.slice A0 l0.length c0) l0) (h : cambiumlaw14_few.f l0 = some r) :
  Calls Tryd.prog 16 #[.slice A0 l0.length c0] w fun e w' => ∃ v0_ : Value, e = .returned (v0_) ∧ Kd.V Kd.string 9 w' w.heap.size (fun k_ => (P0_ k_ ∨ w.heap.size ≤ k_)) v0_ r ∧ Below w.heap.size w w' := by
 have HO0 := Aside0.mk (show Kd.V Kd.string 9 w w.heap.size (fun k_ => (P0_ k_ ∨ w.heap.size ≤ k_)) (.slice A0 l0.length c0) l0 from Kd.V_mono hs0 (fun k_ hk => .inl hk))
 have HB := Aside0.mk (Below.refl w.heap.size w)
 have H : (if (l0.length : Int) > 30 then (if 30 ≤ (l0.length : Int) then (some (l0.take 30)) else (none)) else (some l0)) = some r := h
 clear h
 by_cases c2 : (l0.length : Int) > 30
 ·rw [if_pos c2] at H
  have c2b0 : decide (30 < (l0.length : Int)) = true := decide_eq_true c2
  have c2b1 : decide (30 < l0.length) = true := decide_eq_true (by omega)
  clear c2
  by_cases c3 : 30 ≤ (l0.length : Int)
  ·rw [if_pos c3] at H
   have c3b0 := eq_true c3
   have c3b1 : decide (30 ≤ (l0.length : Int)) = true := decide_eq_true c3
   clear c3
   obtain ⟨y129, hy129⟩ : ∃ y_ : List ByteArray, y_ = (l0.take 30) := ⟨_, rfl⟩
   replace H : (some y129) = some r := by first | (rw [hy129]; with_reducible exact H) | (have H2_ := (Option.bind_some _ _).symm.trans H; rw [hy129]; with_reducible exact H2_) | (have H2_ := (Option.bind_some _ _).symm.trans H; with_reducible exact H2_) | with_reducible exact H | (rw [hy129]; exact H) | exact H
   have Ny129 := Aside0.mk hy129
   clear hy129
   obtain rfl := Option.some.inj H
   have q4 : (30 : Int) ≤ ((l0.length : Int) : Int) := of_decide_eq_true q1_
   obtain ⟨i04, hi04, _, hsz4, _⟩ := info_parts info9
   have hroom4 : l0.length ≤ c0 := (Kd.V_reads' HO0.out).2.1
   have hC4 : Kd.F Kd.string _ _ A0 l0.length l0 := (Kd.V_at (base := w.heap.size) HO0.out).2.2
   have hcut4 := cut_to (P := Tryd.prog) 26 9 .i64 Tryd.underlying26 hi04 A0 l0.length c0 30 (by omega) q4 hroom4
   have hr4 := Kd.F_take (m := 30) hC4 (by omega)
   have hy4 : y129.length = (30 : Int).toNat := (by rw [Ny129.out, List.length_take]; omega)
   rw [← Ny129.out] at hr4
   rw [← hy4] at hcut4
   have HO133 := Aside0.mk (show Kd.V Kd.string 9 _ w.heap.size _ (.slice A0 y129.length c0) y129 from Kd.V_mk (by omega) hr4)
   have HC133 := Aside0.mk (show y129.length ≤ c0 from by omega)
   clear hr4 hC4 hroom4 hi04 hsz4
   have KY4 := Aside0.mk hy4
   clear hy4
   replace q4 := eq_true q4
   go_enter Tryd.func16, Tryd.ntmps16
   go_wp2
   go_ret
   exact ⟨_, by first | rfl | (simp [errW_none, errW_some] <;> rfl) | (simp [*, errW_none, errW_some] <;> rfl), by (with_reducible repeat (first | apply Kd.V_alloc | apply Kd.V_drewN | apply Kd.V_drew)); exact HO133.out, by repeat (first | (with_reducible first | exact HB.out | apply below_alloc | apply pw_below_drewN | apply below_drew1) | exact HB.out)⟩
  ·rw [if_neg c3] at H
   exact absurd H (by simp)
 ·rw [if_neg c2] at H
  have c2b0 : decide (30 < (l0.length : Int)) = false := decide_eq_false c2
  have c2b1 : decide (30 < l0.length) = false := decide_eq_false (by omega)
  clear c2
  obtain rfl := Option.some.inj H
  go_enter Tryd.func16, Tryd.ntmps16
  go_wp2
  go_ret
  exact ⟨_, by first | rfl | (simp [errW_none, errW_some] <;> rfl) | (simp [*, errW_none, errW_some] <;> rfl), by (with_reducible repeat (first | apply Kd.V_alloc | apply Kd.V_drewN | apply Kd.V_drew)); exact HO0.out, by repeat (first | (with_reducible first | exact HB.out | apply below_alloc | apply pw_below_drewN | apply below_drew1) | exact HB.out)⟩

-- NOT PRINTED: function 5 (cambiumlaw14_NameDepth)

-- NOT PRINTED: function 28 (slices_Clone_string_string)

-- NOT PRINTED: function 18 (name_Parent)

-- NOT PRINTED: function 45 (abi_NoEscape)

-- NOT PRINTED: function 39 (strings_Builder_copyCheck)

-- NOT PRINTED: function 46 (bytealg_MakeNoZero)

-- NOT PRINTED: function 40 (strings_Builder_grow)

-- NOT PRINTED: function 32 (strings_Builder_Grow)

-- NOT PRINTED: function 33 (strings_Builder_WriteString)

-- NOT PRINTED: function 34 (strings_Builder_String)

-- NOT PRINTED: function 29 (strings_Join)

-- NOT PRINTED: function 20 (name_Join)

/-! ### cambiumref14_Join: function 21 -/
def cambiumref14_Join.l0 : Nat → List ByteArray → ByteArray → Int → Option (ByteArray)
 | 0, _, _, _ => none
 | k + 1, x1, x5, x6 => if x6 < (x1.length : Int) then (if x5.size + 1 ≤ 9223372036854775807 then (if 0 ≤ x6 then (if (x5 ++ (⟨#[47]⟩ : ByteArray)).size + (rdOf ByteArray.empty x1 x6).size ≤ 9223372036854775807 then (cambiumref14_Join.l0 k x1 ((x5 ++ (⟨#[47]⟩ : ByteArray)) ++ (rdOf ByteArray.empty x1 x6)) (wrap64 (x6 + 1))) else (none)) else (none)) else (none)) else (some x5)
def cambiumref14_Join.f (k : Nat) (a0 : ByteArray) (l1 : List ByteArray) : Option (ByteArray) := if 1 + a0.size ≤ 9223372036854775807 then (cambiumref14_Join.l0 k l1 ((⟨#[47]⟩ : ByteArray) ++ a0) 0) else (none)
theorem cambiumref14_Join.mono_l : ∀ k, (∀ y0 y1 y2, LeO (cambiumref14_Join.l0 k y0 y1 y2) (cambiumref14_Join.l0 (k + 1) y0 y1 y2))
 | 0 => fun _ _ _ r h => absurd (show none = some r from h) (by simp)
 | k + 1 => by
  have ih0 := cambiumref14_Join.mono_l k
  ·intro y0 y1 y2
   unfold cambiumref14_Join.l0
   repeat' first
   | (with_reducible exact ih0 _ _ _)
   | (with_reducible exact LeO.refl _)
   | (with_reducible exact LeO.none _)
   | (with_reducible refine LeO.ite ?_ ?_)
   | (with_reducible refine LeO.bind ?_ (fun _ => ?_))
   | exact ih0 _ _ _
   | exact LeO.none _
   | refine LeO.ite ?_ ?_
   | refine LeO.bind ?_ (fun _ => ?_)
theorem cambiumref14_Join.mono : ∀ a0 a1 k, LeO (cambiumref14_Join.f k a0 a1) (cambiumref14_Join.f (k + 1) a0 a1) := by
 intro a0 a1 k
 have ih0 := cambiumref14_Join.mono_l k
 unfold cambiumref14_Join.f
 repeat' first
   | (with_reducible exact ih0 _ _ _)
   | (with_reducible exact LeO.refl _)
   | (with_reducible exact LeO.none _)
   | (with_reducible refine LeO.ite ?_ ?_)
   | (with_reducible refine LeO.bind ?_ (fun _ => ?_))
   | exact ih0 _ _ _
   | exact LeO.none _
   | refine LeO.ite ?_ ?_
   | refine LeO.bind ?_ (fun _ => ?_)
set_option maxHeartbeats 8000000 in
set_option maxRecDepth 100000 in
theorem cambiumref14_Join.calls (k : Nat) (a0 : ByteArray) (A1 : Option Addr) (c1 : Nat) (l1 : List ByteArray) (r : ByteArray) (w : World) (hr1 : Kd.C Kd.string w A1 l1.length l1) (hc1 : l1.length ≤ c1) (h : cambiumref14_Join.f k a0 l1 = some r) :
  Calls Tryd.prog 21 #[.string a0, .slice A1 l1.length c1] w fun e w' => e = .returned (.string r) ∧ Drawn0 w w' := by
 have HR1 := Aside0.mk hr1
 have HC1 := Aside0.mk hc1
 clear hr1 hc1
 have H : (if 1 + a0.size ≤ 9223372036854775807 then (cambiumref14_Join.l0 k l1 ((⟨#[47]⟩ : ByteArray) ++ a0) 0) else (none)) = some r := h
 clear h
 by_cases c3 : 1 + a0.size ≤ 9223372036854775807
 ·rw [if_pos c3] at H
  have c3b0 := eq_true c3
  have c3b1 : decide (1 + a0.size ≤ 9223372036854775807) = true := decide_eq_true c3
  try have c3b2 : (9223372036854775807 < 1 + a0.size) = False := eq_false (Nat.not_lt.2 c3)
  have H' := Aside0.mk H
  clear H
  go_enter Tryd.func21, Tryd.ntmps21
  go_wp2
  go_loopg [5, 6] k (fun kq v5 v6 w' => ∃ (x5_1 : ByteArray) (x6_1 : Int), v5 = .string x5_1 ∧ v6 = .int .i64 x6_1 ∧ Aside0 (cambiumref14_Join.l0 kq l1 x5_1 x6_1 = some r) ∧ Aside0 (kq ≤ k) ∧ Drawn0 w w')
  case atStart => exact ⟨((⟨#[47]⟩ : ByteArray) ++ a0), (0), q2_, q2_, H', ⟨Nat.le_refl _⟩, by repeat (first | exact Drawn0.refl _ | apply Drawn0.step)⟩
  case round =>
   clear H'
   try clear c1
   try clear c2
   try clear p2
   try clear c3
   try clear c3b0
   try clear c3b1
   try clear c3b2
   obtain ⟨x5_1, x6_1, rfl, rfl, HA, HK1, ⟨m1, rfl⟩⟩ := hrel
   cases gk with
   | zero => exact absurd (show none = some _ from HA.out) (by simp)
   | succ k1 =>
    have H := HA.out
    clear HA
    simp only [cambiumref14_Join.l0] at H
    by_cases c4 : x6_1 < (l1.length : Int)
    ·rw [if_pos c4] at H
     have c4b0 : decide (x6_1 < (l1.length : Int)) = true := decide_eq_true c4
     clear c4
     by_cases c5 : x5_1.size + 1 ≤ 9223372036854775807
     ·rw [if_pos c5] at H
      have c5b0 := eq_true c5
      have c5b1 : decide (x5_1.size + 1 ≤ 9223372036854775807) = true := decide_eq_true c5
      try have c5b2 : (9223372036854775807 < x5_1.size + 1) = False := eq_false (Nat.not_lt.2 c5)
      by_cases c6 : 0 ≤ x6_1
      ·rw [if_pos c6] at H
       have c6b0 : decide (0 ≤ x6_1) = true := decide_eq_true c6
       clear c6
       by_cases c7 : (x5_1 ++ (⟨#[47]⟩ : ByteArray)).size + (rdOf ByteArray.empty l1 x6_1).size ≤ 9223372036854775807
       ·rw [if_pos c7] at H
        have c7b0 := eq_true c7
        have c7b1 : decide ((x5_1 ++ (⟨#[47]⟩ : ByteArray)).size + (rdOf ByteArray.empty l1 x6_1).size ≤ 9223372036854775807) = true := decide_eq_true c7
        try have c7b2 : (9223372036854775807 < (x5_1 ++ (⟨#[47]⟩ : ByteArray)).size + (rdOf ByteArray.empty l1 x6_1).size) = False := eq_false (Nat.not_lt.2 c7)
        have H' := Aside0.mk H
        clear H
        have p142 : 0 ≤ (x6_1 : Int) := of_decide_eq_true q1_
        have q142 : x6_1 < (l1.length : Int) := of_decide_eq_true q1_
        obtain ⟨ad142, e142, hx142_0⟩ := Kd.at_string HR1.out x6_1 p142 q142
        cases e142
        replace p142 := eq_true p142
        replace q142 := eq_true q142
        go_wp2
        go_roundg k1
        case measure => have := HK1.out; omega
        case rel => exact ⟨((x5_1 ++ (⟨#[47]⟩ : ByteArray)) ++ (rdOf ByteArray.empty l1 x6_1)), (wrap64 (x6_1 + 1)), q2_, q2_, H', ⟨by have := HK1.out; omega⟩, by repeat (first | exact Drawn0.refl _ | apply Drawn0.step)⟩
       ·rw [if_neg c7] at H
        exact absurd H (by simp)
      ·rw [if_neg c6] at H
       exact absurd H (by simp)
     ·rw [if_neg c5] at H
      exact absurd H (by simp)
    ·rw [if_neg c4] at H
     have c4b0 : decide (x6_1 < (l1.length : Int)) = false := decide_eq_false c4
     clear c4
     obtain rfl := Option.some.inj H
     go_wp2
     go_ret
     exact ⟨q2_, by repeat (first | exact Drawn0.refl _ | apply Drawn0.step)⟩
 ·rw [if_neg c3] at H
  exact absurd H (by simp)

end Go.Proofs.YtafgfaimenccdaaDoor.P
