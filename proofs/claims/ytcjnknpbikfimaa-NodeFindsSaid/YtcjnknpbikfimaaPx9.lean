/- Functions and contracts, written by a program (mkprint.py, a wrapper of ours around the print); texts between GIVEN marks are ours. -/
import Derived.Test.YtcjnknpbikfimaaPx0
import Derived.Test.YtcjnknpbikfimaaPx8
namespace Go.Proofs.Ytcjnknpbikfimaa.P
open Go.RowKit Go.Proofs.YtcjnknpbikfimaaW.PrintWords Go.Proofs.YtcjnknpbikfimaaW.PrintLast Go.Proofs.YtcjnknpbikfimaaW.PrintMore
attribute [local go_sem] max2_int min2_int max_two min_two max_three min_three max_four min_four   -- for this text's walks alone
set_option linter.unusedVariables false
set_option linter.unusedSimpArgs false
theorem q125_ {P : Prop} (h : P := by repeat (first | (with_reducible first | exact HB.out | apply below_alloc | apply pw_below_drewN | apply below_drew1 | refine below_set ?_ GE134.out) | exact HB.out)) : P := h

/-! ### key_Put: function 33 -/
def key_Put.f (l0 : List Int) (a1_0 : Int) (a1_1 : Int) (a1_2 : Int) : Option (List Int) := (num_Put.f l0 a1_0 4).bind fun t135 => ((num_Put.f t135 a1_1 1).bind fun t138 => ((num_Put.f t138 a1_2 4).bind fun t141 => (some t141)))
def key_Put.T1 : Bool × List (List Nat × List Nat) := (true, [([], []), ([], []), ([1], [1]), ([0, 2], [0, 2]), ([], []), ([4], [4]), ([3, 5, 3], [3, 5]), ([], []), ([7], [7]), ([6, 8, 6], [6, 8]), ([9, 9, 0, 1, 2, 3, 4, 5, 6, 7, 8, 9], [9])])
def key_Put.B1 : List Nat := [0, 0, 2, 7, 0, 16, 63, 0, 128, 511, 1023]
theorem key_Put.tab1 : rtab .any (opsOf Try.f33 1) = key_Put.T1 := by kernel_rfl
theorem key_Put.bits1 : waitsOk key_Put.T1.2 key_Put.B1 = true := by kernel_rfl
set_option maxHeartbeats 8000000 in
set_option maxRecDepth 100000 in
theorem key_Put.calls (A0 : Option Addr) (c0 : Nat) (l0 : List Int) (a1_0 : Int) (a1_1 : Int) (a1_2 : Int) (r : List Int) (w : World) (hr0 : Kd.C (Kd.int .u8) w A0 l0.length l0) (hc0 : l0.length ≤ c0) (h : key_Put.f l0 a1_0 a1_1 a1_2 = some r) :
  Calls Try.prog 33 #[.slice A0 l0.length c0, .agg #[.int .i64 a1_0, .int .i64 a1_1, .int .i64 a1_2]] w fun e w' => ∃ v0_ : Value, e = .returned (v0_) ∧ Kd.R (Kd.int .u8) 5 w' w.heap.size (fun _ => True) v0_ r ∧ Below w.heap.size w w' := by
 have hu35 := Try.underlying35
 have HR0 := Aside0.mk hr0
 have HC0 := Aside0.mk hc0
 clear hr0 hc0
 have HB := Aside0.mk (Below.refl w.heap.size w)
 have H : ((num_Put.f l0 a1_0 4).bind fun t135 => ((num_Put.f t135 a1_1 1).bind fun t138 => ((num_Put.f t138 a1_2 4).bind fun t141 => (some t141)))) = some r := h
 clear h
 replace H := Option.bind_eq_some_iff.mp H
 obtain ⟨t135, A30, H⟩ := H
 replace H : ((num_Put.f t135 a1_1 1).bind fun t138 => ((num_Put.f t138 a1_2 4).bind fun t141 => (some t141))) = some r := H
 have A3 := Aside0.mk A30
 clear A30
 replace H := Option.bind_eq_some_iff.mp H
 obtain ⟨t138, A40, H⟩ := H
 replace H : ((num_Put.f t138 a1_2 4).bind fun t141 => (some t141)) = some r := H
 have A4 := Aside0.mk A40
 clear A40
 replace H := Option.bind_eq_some_iff.mp H
 obtain ⟨t141, A50, H⟩ := H
 replace H : (some t141) = some r := H
 have A5 := Aside0.mk A50
 clear A50
 obtain rfl := Option.some.inj H
 go_enter Try.func33, Try.ntmps33
 try go_wp2_with (first | ((with_reducible refine gate_dst (N := 3) rfl ?_); refine box_event ?hg (N := 3) ?hd (cs := #[.int .i64 a1_0, .int .i64 a1_1, .int .i64 a1_2]) (t := 35) ?hr ?_; (case hd => rfl); (case hg => rfl); (case hr => first | (go_simp; done) | (go_simp; rfl)); intro gb134 hg w6 hbox hb; have n0_ := Aside0.mk (below_step q0_ hb); have n1_ := Aside0.mk (hbox); have n2_ := Aside0.mk ((by rw [hg]; exact (below_size q0_) : w.heap.size ≤ gb134)); have n3_ := Aside0.mk ((by rw [hg]; exact (below_size q0_) : w.heap.size ≤ gb134)); clear HB; have HB := n0_; have BK134 := n1_; have GW134 := n2_; have GE134 := n3_; clear n0_ n1_ n2_ n3_; clear hb hbox hg))
 have n0_ := Aside0.mk (blk_drew BK134.out)
 have n1_ := Aside0.mk (below_drew1 HB.out)
 clear BK134
 clear HB
 have BK134 := n0_
 have HB := n1_
 clear n0_ n1_
 refine start_ (n := 11) (S := fun w' => w'.cell? ⟨gb134, 0, none⟩ = some (.int .i64 a1_0) ∧ w'.cell? ⟨gb134, 1, none⟩ = some (.int .i64 a1_1) ∧ w'.cell? ⟨gb134, 2, none⟩ = some (.int .i64 a1_2)) (ds := []) (bl_ 11 0) q8_ rfl rfl ⟨(blk_cell BK134.out 0).trans rfl, (blk_cell BK134.out 1).trans rfl, (blk_cell BK134.out 2).trans rfl⟩ (fun hHeld => ?_); refine with_tabW key_Put.tab1 key_Put.bits1 (fun HT_ HW_ => ?_)
 generalize w6.drew = w7 at BK134 HB hHeld ⊢
 refine pure_ (i := 0) (N := some 5) (v := ?_) (a' := ?_) (bl_ 11 1) rfl rfl (any_of HT_.out q8_) (fun _ _ _ h => h) (Or.inl ⟨by rfl, ?_⟩) ?_ ?_
 rotate_left
 ·intro w'
  go_simp
  with_reducible rfl
 rotate_left
 ·simp only [Act.put, List.setIfInBounds_toArray, List.set_cons_zero, List.set_cons_succ, i64_w, i32_w]
  rfl
 refine pure_ (i := 1) (N := some 6) (v := ?_) (a' := ?_) (bl_ 11 3) rfl rfl (any_of HT_.out q8_) (fun _ _ _ h => h) (Or.inl ⟨by rfl, ?_⟩) ?_ ?_
 rotate_left
 ·intro w'
  go_simp
  with_reducible rfl
 rotate_left
 ·simp only [Act.put, List.setIfInBounds_toArray, List.set_cons_zero, List.set_cons_succ, i64_w, i32_w]
  rfl
 refine pure_ (i := 4) (N := some 9) (v := ?_) (a' := ?_) (bl_ 11 19) rfl rfl (any_of HT_.out q8_) (fun _ _ _ h => h) (Or.inl ⟨by rfl, ?_⟩) ?_ ?_
 rotate_left
 ·intro w'
  go_simp
  with_reducible rfl
 rotate_left
 ·simp only [Act.put, List.setIfInBounds_toArray, List.set_cons_zero, List.set_cons_succ, i64_w, i32_w]
  rfl
 refine pure_ (i := 7) (N := some 12) (v := ?_) (a' := ?_) (bl_ 11 147) rfl rfl (any_of HT_.out q8_) (fun _ _ _ h => h) (Or.inl ⟨by rfl, ?_⟩) ?_ ?_
 rotate_left
 ·intro w'
  go_simp
  with_reducible rfl
 rotate_left
 ·simp only [Act.put, List.setIfInBounds_toArray, List.set_cons_zero, List.set_cons_succ, i64_w, i32_w]
  rfl
 refine take_ (i := 2) (N := some 7) (v := ?_) (a' := ?_) (bl_ 11 151) rfl rfl (take_ofW HT_.out HW_.out q8_) (fun _ _ _ h => h) (Or.inl ⟨by rfl, ?_⟩) hHeld ?_ ?_
 rotate_left
 ·rintro w' ⟨s0, s1, s2⟩
  go_simp
  with_reducible rfl
 rotate_left
 ·simp only [Act.put, List.setIfInBounds_toArray, List.set_cons_zero, List.set_cons_succ, i64_w, i32_w]
  rfl
 refine take_ (i := 5) (N := some 10) (v := ?_) (a' := ?_) (bl_ 11 183) rfl rfl (take_ofW HT_.out HW_.out q8_) (fun _ _ _ h => h) (Or.inl ⟨by rfl, ?_⟩) hHeld ?_ ?_
 rotate_left
 ·rintro w' ⟨s0, s1, s2⟩
  go_simp
  with_reducible rfl
 rotate_left
 ·simp only [Act.put, List.setIfInBounds_toArray, List.set_cons_zero, List.set_cons_succ, i64_w, i32_w]
  rfl
 refine take_ (i := 8) (N := some 13) (v := ?_) (a' := ?_) (bl_ 11 439) rfl rfl (take_ofW HT_.out HW_.out q8_) (fun _ _ _ h => h) (Or.inl ⟨by rfl, ?_⟩) hHeld ?_ ?_
 rotate_left
 ·rintro w' ⟨s0, s1, s2⟩
  go_simp
  with_reducible rfl
 rotate_left
 ·simp only [Act.put, List.setIfInBounds_toArray, List.set_cons_zero, List.set_cons_succ, i64_w, i32_w]
  rfl
 refine one_ (i := 3) (N := some 8) (bl_ 11 447) rfl rfl (one_of HT_.out q8_) q210_ (fun K hK => ?_)
 refine goes_ Try.func32 q8_ rfl #[.slice A0 l0.length c0, .int .i64 a1_0, .int .i64 4] (by rfl) rfl rfl q1_ ?_
 with_reducible refine (num_Put.calls _ _ l0 a1_0 4 t135 _ ?side1 ?side2 A3.out).mono ?_
 (case side1 => repeat (first | exact (Kd.C_below HR0.out HB.out) | (with_reducible refine Kd.C_alloc ?_ _) | (with_reducible refine Kd.C_drewN ?_ _) | (with_reducible refine Kd.C_drew ?_)))
 (case side2 => exact HC0.out)
 rintro e w8 ⟨v136, rfl, ho0, hb⟩
 refine ⟨_, rfl, ?_⟩
 have n0_ := Aside0.mk (Kd.R_lower ho0 (below_size q125_))
 have n1_ := Aside0.mk (blk_below (g := gb134) (o := .cells #[.int .i64 a1_0, .int .i64 a1_1, .int .i64 a1_2] 35 (0, 0)) (by (with_reducible repeat (first | refine blk_drewN ?_ _ | refine blk_drew ?_ | refine blk_alloc ?_ _)); exact BK134.out) hb)
 have n2_ := Aside0.mk (below_step q125_ hb)
 clear BK134
 clear HB
 have HO137 := n0_
 have BK134 := n1_
 have HB := n2_
 clear n0_ n1_ n2_
 (try clear hb)
 (try clear hb2)
 (try clear hk)
 (try clear hi)
 (try clear ho0)
 obtain ⟨Ao9, co9, eo9⟩ := Kd.R_slice HO137.out
 (first | subst eo9 | (injection eo9 with f1_ f2_ f3_; have f4_ := f1_.symm; have f5_ := f3_.symm; clear f1_ f2_ f3_; subst f4_; subst f5_))
 refine hK.out _ _ ⟨(blk_cell BK134.out 0).trans rfl, (blk_cell BK134.out 1).trans rfl, (blk_cell BK134.out 2).trans rfl⟩ (fun hHeld => ?_)
 clear hK K
 refine norm_ (a' := ?_) ?_ ?_
 rotate_left
 ·show Act.put _ (some 8) _ = _
  simp only [Act.put, List.setIfInBounds_toArray, List.set_cons_zero, List.set_cons_succ, i64_w, i32_w]
  rfl
 refine one_ (i := 6) (N := some 11) (bl_ 11 511) rfl rfl (one_of HT_.out q8_) q210_ (fun K hK => ?_)
 refine goes_ Try.func32 q8_ rfl #[.slice Ao9 t135.length co9, .int .i64 a1_1, .int .i64 1] (by rfl) rfl rfl q1_ ?_
 with_reducible refine (num_Put.calls _ _ t135 a1_1 1 t138 _ ?side1 ?side2 A4.out).mono ?_
 (case side1 => repeat (first | exact (Kd.R_reads' HO137.out).2.2 | (with_reducible refine Kd.C_alloc ?_ _) | (with_reducible refine Kd.C_drewN ?_ _) | (with_reducible refine Kd.C_drew ?_)))
 (case side2 => exact (Kd.R_reads' HO137.out).2.1)
 rintro e w10 ⟨v139, rfl, ho0, hb⟩
 refine ⟨_, rfl, ?_⟩
 have n0_ := Aside0.mk (Kd.R_elder' (by (with_reducible repeat (first | apply Kd.R_alloc | apply Kd.R_drewN | apply Kd.R_drew)); exact HO137.out) (Kd.R_base ho0) hb)
 have n1_ := Aside0.mk (Kd.R_lower (Kd.R_new' ho0 (Kd.R_lt (by (with_reducible repeat (first | apply Kd.R_alloc | apply Kd.R_drewN | apply Kd.R_drew)); exact HO137.out))) (below_size q125_))
 have n2_ := Aside0.mk (blk_below (g := gb134) (o := .cells #[.int .i64 a1_0, .int .i64 a1_1, .int .i64 a1_2] 35 (0, 0)) (by (with_reducible repeat (first | refine blk_drewN ?_ _ | refine blk_drew ?_ | refine blk_alloc ?_ _)); exact BK134.out) hb)
 have n3_ := Aside0.mk (below_step q125_ hb)
 clear HO137
 clear BK134
 clear HB
 have HO137 := n0_
 have HO140 := n1_
 have BK134 := n2_
 have HB := n3_
 clear n0_ n1_ n2_ n3_
 (try clear hb)
 (try clear hb2)
 (try clear hk)
 (try clear hi)
 (try clear ho0)
 obtain ⟨Ao11, co11, eo11⟩ := Kd.R_slice HO140.out
 (first | subst eo11 | (injection eo11 with f1_ f2_ f3_; have f4_ := f1_.symm; have f5_ := f3_.symm; clear f1_ f2_ f3_; subst f4_; subst f5_))
 refine hK.out _ _ ⟨(blk_cell BK134.out 0).trans rfl, (blk_cell BK134.out 1).trans rfl, (blk_cell BK134.out 2).trans rfl⟩ (fun hHeld => ?_)
 clear hK K
 refine norm_ (a' := ?_) ?_ ?_
 rotate_left
 ·show Act.put _ (some 11) _ = _
  simp only [Act.put, List.setIfInBounds_toArray, List.set_cons_zero, List.set_cons_succ, i64_w, i32_w]
  rfl
 refine one_ (i := 9) (N := some 14) (bl_ 11 1023) rfl rfl (one_of HT_.out q8_) q210_ (fun K hK => ?_)
 refine goes_ Try.func32 q8_ rfl #[.slice Ao11 t138.length co11, .int .i64 a1_2, .int .i64 4] (by rfl) rfl rfl q1_ ?_
 with_reducible refine (num_Put.calls _ _ t138 a1_2 4 t141 _ ?side1 ?side2 A5.out).mono ?_
 (case side1 => repeat (first | exact (Kd.R_reads' HO140.out).2.2 | (with_reducible refine Kd.C_alloc ?_ _) | (with_reducible refine Kd.C_drewN ?_ _) | (with_reducible refine Kd.C_drew ?_)))
 (case side2 => exact (Kd.R_reads' HO140.out).2.1)
 rintro e w12 ⟨v142, rfl, ho0, hb⟩
 refine ⟨_, rfl, ?_⟩
 have n0_ := Aside0.mk (Kd.R_elder' (by (with_reducible repeat (first | apply Kd.R_alloc | apply Kd.R_drewN | apply Kd.R_drew)); exact HO137.out) (Kd.R_base ho0) hb)
 have n1_ := Aside0.mk (Kd.R_elder' (by (with_reducible repeat (first | apply Kd.R_alloc | apply Kd.R_drewN | apply Kd.R_drew)); exact HO140.out) (Kd.R_base ho0) hb)
 have n2_ := Aside0.mk (Kd.R_lower (Kd.R_new' (Kd.R_new' ho0 (Kd.R_lt (by (with_reducible repeat (first | apply Kd.R_alloc | apply Kd.R_drewN | apply Kd.R_drew)); exact HO137.out))) (Kd.R_lt (by (with_reducible repeat (first | apply Kd.R_alloc | apply Kd.R_drewN | apply Kd.R_drew)); exact HO140.out))) (below_size q125_))
 have n3_ := Aside0.mk (blk_below (g := gb134) (o := .cells #[.int .i64 a1_0, .int .i64 a1_1, .int .i64 a1_2] 35 (0, 0)) (by (with_reducible repeat (first | refine blk_drewN ?_ _ | refine blk_drew ?_ | refine blk_alloc ?_ _)); exact BK134.out) hb)
 have n4_ := Aside0.mk (below_step q125_ hb)
 clear HO137
 clear HO140
 clear BK134
 clear HB
 have HO137 := n0_
 have HO140 := n1_
 have HO143 := n2_
 have BK134 := n3_
 have HB := n4_
 clear n0_ n1_ n2_ n3_ n4_
 (try clear hb)
 (try clear hb2)
 (try clear hk)
 (try clear hi)
 (try clear ho0)
 refine hK.out _ _ ⟨(blk_cell BK134.out 0).trans rfl, (blk_cell BK134.out 1).trans rfl, (blk_cell BK134.out 2).trans rfl⟩ (fun hHeld => ?_)
 clear hK K
 refine norm_ (a' := ?_) ?_ ?_
 rotate_left
 ·show Act.put _ (some 14) _ = _
  simp only [Act.put, List.setIfInBounds_toArray, List.set_cons_zero, List.set_cons_succ, i64_w, i32_w]
  rfl
 refine pure_ (i := 10) (N := some 4) (v := ?_) (a' := ?_) (bl_ 11 2047) rfl rfl (any_of HT_.out q8_) (fun _ _ _ h => h) (Or.inl ⟨by rfl, ?_⟩) ?_ ?_
 rotate_left
 ·intro w'
  go_simp
  with_reducible rfl
 rotate_left
 ·simp only [Act.put, List.setIfInBounds_toArray, List.set_cons_zero, List.set_cons_succ, i64_w, i32_w]
  rfl
 refine done_ (done_of HT_.out q8_) ?_
 try go_wp2
 go_ret
 exact ⟨_, by first | rfl | (simp [errW_none, errW_some] <;> rfl) | (simp [*, errW_none, errW_some] <;> rfl), by (with_reducible repeat (first | apply Kd.R_alloc | apply Kd.R_drewN | apply Kd.R_drew)); exact Kd.R_mono HO143.out (fun _ hk => trivial), by repeat (first | (with_reducible first | exact HB.out | apply below_alloc | apply pw_below_drewN | apply below_drew1 | refine below_set ?_ GE134.out) | exact HB.out)⟩

/-! ### GIVEN seal_may: function 54 -/
def sealMay (a0_0 a0_1 a0_2 a0_3 a0_4 : Int) : Bool := decide (1 ≤ a0_0 ∧ a0_0 ≤ 6 ∧ (0 ≤ a0_3 ∧ a0_3 ≤ 8) ∧ (0 ≤ a0_1 ∧ a0_1 ≤ 2047) ∧ (0 ≤ a0_2 ∧ a0_2 ≤ 65535) ∧ (0 ≤ a0_4 ∧ a0_4 ≤ 1099511627775))
theorem sealMay_no {a0_0 a0_1 a0_2 a0_3 a0_4 : Int} (h : ¬ (1 ≤ a0_0 ∧ a0_0 ≤ 6 ∧ (0 ≤ a0_3 ∧ a0_3 ≤ 8) ∧ (0 ≤ a0_1 ∧ a0_1 ≤ 2047) ∧ (0 ≤ a0_2 ∧ a0_2 ≤ 65535) ∧ (0 ≤ a0_4 ∧ a0_4 ≤ 1099511627775))) : Ending.returned (.bool false) = .returned (.bool (sealMay a0_0 a0_1 a0_2 a0_3 a0_4)) := by unfold sealMay; rw [decide_eq_false h]
theorem sealMay_yes {a0_0 a0_1 a0_2 a0_3 a0_4 : Int} (h : (1 ≤ a0_0 ∧ a0_0 ≤ 6 ∧ (0 ≤ a0_3 ∧ a0_3 ≤ 8) ∧ (0 ≤ a0_1 ∧ a0_1 ≤ 2047) ∧ (0 ≤ a0_2 ∧ a0_2 ≤ 65535) ∧ (0 ≤ a0_4 ∧ a0_4 ≤ 1099511627775))) : Ending.returned (.bool true) = .returned (.bool (sealMay a0_0 a0_1 a0_2 a0_3 a0_4)) := by unfold sealMay; rw [decide_eq_true h]
def seal_may.f (a0_0 a0_1 a0_2 a0_3 a0_4 : Int) : Option Bool := some (sealMay a0_0 a0_1 a0_2 a0_3 a0_4)
def mayRow (a1 a2 a3 a4 : Int) : Array Value := #[.int .i64 a3, .int .i64 8, .int .i64 a1, .int .i64 2047, .int .i64 a2, .int .i64 65535, .int .i64 a4, .int .i64 1099511627775]
def mayTo (k : Nat) (a1 a2 a3 a4 : Int) : Prop := (0 < k → 0 ≤ a3 ∧ a3 ≤ 8) ∧ (1 < k → 0 ≤ a1 ∧ a1 ≤ 2047) ∧ (2 < k → 0 ≤ a2 ∧ a2 ≤ 65535) ∧ (3 < k → 0 ≤ a4 ∧ a4 ≤ 1099511627775)
def mayX (a1 a2 a3 a4 : Int) : Nat → Int
 | 0 => a3
 | 1 => a1
 | 2 => a2
 | _ => a4
def mayT : Nat → Int
 | 0 => 8
 | 1 => 2047
 | 2 => 65535
 | _ => 1099511627775
theorem mayTo_succ (a1 a2 a3 a4 : Int) (k : Nat) (h : k < 4) : mayTo (k + 1) a1 a2 a3 a4 ↔ mayTo k a1 a2 a3 a4 ∧ 0 ≤ mayX a1 a2 a3 a4 k ∧ mayX a1 a2 a3 a4 k ≤ mayT k := by
 have hk4 : k = 0 ∨ k = 1 ∨ k = 2 ∨ k = 3 := by omega
 rcases hk4 with rfl | rfl | rfl | rfl <;> simp only [mayTo, mayX, mayT] <;> omega
theorem mayNo (a0 a1 a2 a3 a4 : Int) (k : Nat) (h : k < 4) (hx : mayX a1 a2 a3 a4 k < 0 ∨ mayT k < mayX a1 a2 a3 a4 k) :
  ¬ (1 ≤ a0 ∧ a0 ≤ 6 ∧ (0 ≤ a3 ∧ a3 ≤ 8) ∧ (0 ≤ a1 ∧ a1 ≤ 2047) ∧ (0 ≤ a2 ∧ a2 ≤ 65535) ∧ (0 ≤ a4 ∧ a4 ≤ 1099511627775)) := by
 have hk4 : k = 0 ∨ k = 1 ∨ k = 2 ∨ k = 3 := by omega
 rcases hk4 with rfl | rfl | rfl | rfl <;> simp only [mayX, mayT] at hx <;> omega
set_option maxHeartbeats 1000000 in
theorem seal_may.calls (a0_0 : Int) (a0_1 : Int) (a0_2 : Int) (a0_3 : Int) (a0_4 : Int) (r : Bool) (w : World) (h : seal_may.f a0_0 a0_1 a0_2 a0_3 a0_4 = some r) :
  Calls Try.prog 54 #[.agg #[.int .i64 a0_0, .int .i64 a0_1, .int .i64 a0_2, .int .i64 a0_3, .int .i64 a0_4]] w fun e w' => e = .returned (.bool r) ∧ Below w.heap.size w w' := by
 obtain rfl := Option.some.inj h
 clear h
 have HB0 := Aside0.mk ((Below.refl w.heap.size w).alloc (Nat.le_refl _) (.cells #[.int .i64 a0_0, .int .i64 a0_1, .int .i64 a0_2, .int .i64 a0_3, .int .i64 a0_4] 62))
 by_cases h0 : a0_0 < 1
 ·have d0 : decide (a0_0 < 1) = true := by simpa using h0
  go_enter Try.func54, Try.ntmps54
  go_wp2
  go_ret
  exact ⟨sealMay_no (by omega), HB0.out⟩
 have d0 : decide (a0_0 < 1) = false := by simpa using h0
 by_cases h1 : 6 < a0_0
 ·have d1 : decide (6 < a0_0) = true := by simpa using h1
  go_enter Try.func54, Try.ntmps54
  go_wp2
  go_ret
  exact ⟨sealMay_no (by omega), HB0.out⟩
 have d1 : decide (6 < a0_0) = false := by simpa using h1
 go_enter Try.func54, Try.ntmps54
 go_wp2
 go_loopw [27] (fun i wr => ∃ k : Nat, k ≤ 4 ∧ i = .int .i64 k ∧ Aside0 (wr.heap[w.heap.size + 1]? = some (.cells (mayRow a0_1 a0_2 a0_3 a0_4) 49 (0, 0))) ∧ Aside0 (Below w.heap.size w wr) ∧ Aside0 (mayTo k a0_1 a0_2 a0_3 a0_4)) (fun i _ => 4 - (intOf i).toNat)
 case atStart => exact ⟨0, by omega, rfl, ⟨heap_alloc2_new w _ _⟩, ⟨HB0.out.alloc (by simp) _⟩, ⟨by unfold mayTo; omega⟩⟩
 case round =>
  obtain ⟨k, hk, rfl, HH, HB, HM⟩ := hrel
  by_cases hlt : k < 4
  ·have hc : wr.cell? ⟨w.heap.size + 1, k * 2, none⟩ = some (.int .i64 (mayX a0_1 a0_2 a0_3 a0_4 k)) ∧ wr.cell? ⟨w.heap.size + 1, k * 2 + 1, none⟩ = some (.int .i64 (mayT k)) := by
    rw [cell_of_row _ _ _ _ _ _ HH.out, cell_of_row _ _ _ _ _ _ HH.out]
    have hk4 : k = 0 ∨ k = 1 ∨ k = 2 ∨ k = 3 := by omega
    rcases hk4 with rfl | rfl | rfl | rfl <;> exact ⟨rfl, rfl⟩
   obtain ⟨hc0, hc1⟩ := hc
   have HT := Aside0.mk (mayTo_succ a0_1 a0_2 a0_3 a0_4 k hlt)
   have HN := Aside0.mk (mayNo a0_0 a0_1 a0_2 a0_3 a0_4 k hlt)
   have hsz := blk_lt HH.out
   generalize mayX a0_1 a0_2 a0_3 a0_4 k = x at *
   generalize mayT k = y at *
   by_cases hx : x < 0
   ·have d2 : decide (x < 0) = true := by simpa using hx
    go_wp2
    go_ret
    exact ⟨sealMay_no (HN.out (Or.inl hx)), HB.out.alloc HB.out.size _⟩
   have d2 : decide (x < 0) = false := by simpa using hx
   by_cases hy : y < x
   ·have d3 : decide (y < x) = true := by simpa using hy
    go_wp2
    go_ret
    exact ⟨sealMay_no (HN.out (Or.inr hy)), HB.out.alloc HB.out.size _⟩
   have d3 : decide (y < x) = false := by simpa using hy
   go_wp2
   go_roundw
   case rel => exact ⟨k + 1, by omega, by go_num, ⟨(heap_alloc_old wr _ hsz).trans HH.out⟩, ⟨HB.out.alloc HB.out.size _⟩, ⟨HT.out.2 ⟨HM.out, by omega, by omega⟩⟩⟩
   case measure => simp [intOf]; omega
  ·obtain rfl : k = 4 := by omega
   go_wp2
   go_ret
   have hm := HM.out
   unfold mayTo at hm
   exact ⟨sealMay_yes (by omega), HB.out⟩
/-! ### end of GIVEN -/
/-! ### GIVEN sum_nibbles: function 69 -/
def tabRow (k : Nat) : Array Value := ((List.range 16).map fun i => if i < k then Value.int .u32 (Crc.tb i) else .int .u32 0).toArray
theorem tabRow_get (k : Nat) (h : k < 16) : (tabRow k)[k]? = some (.int .u32 0) := by simp [tabRow, h]
theorem tabRow_set (k : Nat) (h : k < 16) : (tabRow k).setIfInBounds k (.int .u32 (Crc.tb k)) = tabRow (k + 1) := by
 apply Array.ext
 ·simp [tabRow]
 ·intro i h1 h2
  simp [tabRow, List.getElem_set]
  by_cases e : k = i
  ·subst e; simp
  ·have : i < k + 1 ↔ i < k := by omega
   simp [e, this]
theorem tabRow_lit : tabRow 16 = #[.int .u32 (Crc.tb 0), .int .u32 (Crc.tb 1), .int .u32 (Crc.tb 2), .int .u32 (Crc.tb 3), .int .u32 (Crc.tb 4), .int .u32 (Crc.tb 5), .int .u32 (Crc.tb 6), .int .u32 (Crc.tb 7), .int .u32 (Crc.tb 8), .int .u32 (Crc.tb 9), .int .u32 (Crc.tb 10), .int .u32 (Crc.tb 11), .int .u32 (Crc.tb 12), .int .u32 (Crc.tb 13), .int .u32 (Crc.tb 14), .int .u32 (Crc.tb 15)] := rfl
theorem tabRow_one : ∀ v ∈ (tabRow 16).toList, v.oneCell' = true := by simp [tabRow_lit, Value.oneCell']
set_option maxHeartbeats 400000 in
theorem nib (w : World) : Calls Try.prog 69 #[] w fun e w' => e = .returned (.agg (tabRow 16)) ∧ Below w.heap.size w w' := by
 go_enter Try.func69, Try.ntmps69
 go_wp2
 go_loopw [4] (fun i wr => ∃ k : Nat, k ≤ 16 ∧ i = .int .i64 k ∧ wr = (w.alloc (.cells (tabRow 0) 99)).alloc (.cells (tabRow k) 99)) (fun i _ => 16 - (intOf i).toNat)
 case atStart => exact ⟨0, by omega, rfl, rfl⟩
 case round =>
  obtain ⟨k, hk, rfl, rfl⟩ := hrel
  by_cases hlt : k < 16
  ·have hcell := tabRow_get k hlt
   go_wp2
   go_loop [3, 9] (fun r i => ∃ j : Nat, j ≤ 4 ∧ i = .int .i64 j ∧ r = .int .u32 (Crc.stpN j k)) (fun _ i => 4 - (intOf i).toNat)
   case atStart => exact ⟨0, by omega, rfl, by simp [Crc.stpN]⟩
   case round =>
    obtain ⟨j, hj, rfl, rfl⟩ := hrel
    by_cases hj4 : j < 4
    ·go_wp2
     ·rename_i h
      go_round
      case rel => exact ⟨j + 1, by omega, by go_num, by simp only [Crc.stpN, Crc.stp]; rw [if_pos (by simpa using h)]⟩
      case measure => simp [intOf]; omega
     ·rename_i h
      go_round
      case rel => exact ⟨j + 1, by omega, by go_num, by simp only [Crc.stpN, Crc.stp]; rw [if_neg (by simpa using h)]⟩
      case measure => simp [intOf]; omega
    ·obtain rfl : j = 4 := by omega
     go_wp2
     go_roundw
     case rel => exact ⟨k + 1, by omega, by go_num, by rw [← tabRow_set k hlt]; rfl⟩
     case measure => simp [intOf]; omega
  ·obtain rfl : k = 16 := by omega
   go_wp2_with (first | (refine wpList_load_row rfl 99 _ rfl (w.heap.size + 1) rfl 99 (tabRow 16) (0, 0) _ (heap_alloc2_new w _ _) Try.underlying99 rfl q8_ ?_) | (refine Own.wpList_store_row rfl 99 _ _ rfl w.heap.size rfl (tabRow 16) rfl 99 (tabRow 0) (heap_alloc2_old w _ _) q8_ rfl tabRow_one ?_))
   rw [Own.setRow_alloc_past _ _ _ _ (by simp), Own.setRow_alloc_at _ _ _ _ _ rfl]
   go_wp2
   exact bodyPost_ret (v := .agg (tabRow 16)) (results_cell_row rfl _ _ w.heap.size 99 (tabRow 16) (0, 0) _ rfl (heap_alloc2_old w _ _) Try.underlying99 rfl q8_) rfl ⟨rfl, ((Below.refl _ _).alloc (Nat.le_refl _) _).alloc (by simp) _⟩
/-! ### end of GIVEN -/
/-! ### GIVEN sum_More: function 65 -/
theorem tab_at (x : Int) (h0 : 0 ≤ x) (h1 : x < 16) : (tabRow 16)[x.toNat]? = some (.int .u32 (Crc.tb x.toNat)) := by
 have : x.toNat < 16 := by omega
 simp [tabRow, this]
def sum_More.f (a0 : Int) (l1 : List Int) : Option Int := some (Crc.moreI a0 l1)
theorem fold_take (l : List Int) (a : Int) (k : Nat) (h : k < l.length) : (l.take (k + 1)).foldl Crc.moreStep a = Crc.moreStep ((l.take k).foldl Crc.moreStep a) (rd l k) := by
 rw [List.take_succ_eq_append_getElem h, List.foldl_append]
 simp [rd, List.getD_eq_getElem?_getD, h]
set_option maxHeartbeats 400000 in
theorem sum_More.calls (a0 : Int) (A1 : Option Addr) (c1 : Nat) (l1 : List Int) (r : Int) (w : World) (hr1 : Kd.C (Kd.int .u8) w A1 l1.length l1) (hc1 : l1.length ≤ c1) (h : sum_More.f a0 l1 = some r) :
  Calls Try.prog 65 #[.int .u32 a0, .slice A1 l1.length c1] w fun e w' => e = .returned (.int .u32 r) ∧ Below w.heap.size w w' := by
 have HR1 := Aside0.mk hr1
 have HC1 := Aside0.mk hc1
 have HL := Aside0.mk hr1.2.1
 clear hr1 hc1
 have H' := Aside0.mk h
 clear h
 go_enter Try.func65, Try.ntmps65
 go_wp2_with (first | (go_at_call 69; refine (nib _).mono ?_; rintro e w1 ⟨rfl, hb⟩) | (refine Own.wpList_store_row rfl 99 _ _ rfl _ rfl (tabRow 16) rfl 99 _ (heap_alloc_new _ _) q8_ rfl tabRow_one ?_; rw [Own.setRow_alloc_at _ _ _ _ _ rfl]))
 have HB := Aside0.mk (hb.alloc hb.size (.cells (tabRow 16) 99))
 have HR2 := Aside0.mk (Kd.C_below HR1.out HB.out)
 clear hb HR1
 go_loop [6, 14] (fun v i => ∃ k : Nat, k ≤ l1.length ∧ i = .int .i64 k ∧ v = .int .u32 ((l1.take k).foldl Crc.moreStep (Go.bits .xor .u32 4294967295 a0))) (fun _ i => l1.length - (intOf i).toNat)
 case atStart => exact ⟨0, by omega, rfl, rfl⟩
 case round =>
  obtain ⟨k, hk, rfl, rfl⟩ := hrel
  have hm := HL.out
  by_cases hlt : k < l1.length
  ·have HF := Aside0.mk (fold_take l1 (Go.bits .xor .u32 4294967295 a0) k hlt)
   generalize hx : (l1.take k).foldl Crc.moreStep (Go.bits .xor .u32 4294967295 a0) = x at HF
   clear hx
   obtain ⟨ad, rfl, hcell⟩ := Kd.at_int HR2.out (k : Int) (by omega) (by omega)
   rw [Int.toNat_natCast] at hcell
   have e1 := Crc.and15 (Go.bits .xor .u32 x (rd l1 k % 4294967296))
   have t1 := tab_at _ e1.1 e1.2
   have e2 := Crc.and15 (Go.bits .xor .u32 (Go.bits .xor .u32 x (rd l1 k % 4294967296) / 16) (Crc.tb (Go.bits .and .u32 (Go.bits .xor .u32 x (rd l1 k % 4294967296)) 15).toNat))
   have t2 := tab_at _ e2.1 e2.2
   go_wp2
   go_round
   case rel => exact ⟨k + 1, by omega, by go_num, by rw [HF.out]; rfl⟩
   case measure => simp [intOf]; omega
  ·obtain rfl : k = l1.length := by omega
   go_wp2
   go_ret
   have := H'.out

   exact ⟨by simp only [sum_More.f, Crc.moreI] at this; injection this with this; rw [← this]; rfl, HB.out⟩
/-! ### end of GIVEN -/
/-! ### sum_Sum: function 55 -/
def sum_Sum.f (l0 : List Int) : Option (Int) := (sum_More.f 0 l0).bind fun t144 => (some t144)
set_option maxHeartbeats 8000000 in
set_option maxRecDepth 100000 in
theorem sum_Sum.calls (A0 : Option Addr) (c0 : Nat) (l0 : List Int) (r : Int) (w : World) (hr0 : Kd.C (Kd.int .u8) w A0 l0.length l0) (hc0 : l0.length ≤ c0) (h : sum_Sum.f l0 = some r) :
  Calls Try.prog 55 #[.slice A0 l0.length c0] w fun e w' => e = .returned (.int .u32 r) ∧ Below w.heap.size w w' := by
 have HR0 := Aside0.mk hr0
 have HC0 := Aside0.mk hc0
 clear hr0 hc0
 have HB := Aside0.mk (Below.refl w.heap.size w)
 have H : ((sum_More.f 0 l0).bind fun t144 => (some t144)) = some r := h
 clear h
 replace H := Option.bind_eq_some_iff.mp H
 obtain ⟨t144, A20, H⟩ := H
 replace H : (some t144) = some r := H
 have A2 := Aside0.mk A20
 clear A20
 obtain rfl := Option.some.inj H
 go_enter Try.func55, Try.ntmps55
 go_wp2_with (first | ((with_reducible refine gate_callee (f := 65) rfl ?_); refine goesL_ (some 4) rfl rfl Try.func65 q8_ rfl #[.int .u32 0, .slice A0 l0.length c0] rfl q1_ ?_; (with_reducible refine (sum_More.calls 0 _ _ l0 t144 _ ?side1 ?side2 A2.out).mono ?_); (case side1 => repeat (first | exact HR0.out | (with_reducible refine Kd.C_alloc ?_ _) | (with_reducible refine Kd.C_drewN ?_ _) | (with_reducible refine Kd.C_drew ?_))); (case side2 => exact HC0.out); rintro e w3 ⟨rfl, hb⟩; refine ⟨_, rfl, ?_⟩; have n0_ := Aside0.mk (below_step q0_ hb); clear HB; have HB := n0_; clear n0_; (try clear hb); (try clear hb2); (try clear hk); (try clear hi)))
 go_ret
 exact ⟨q6_, by repeat (first | (with_reducible first | exact HB.out | apply below_alloc | apply pw_below_drewN | apply below_drew1) | exact HB.out)⟩

end Go.Proofs.Ytcjnknpbikfimaa.P
