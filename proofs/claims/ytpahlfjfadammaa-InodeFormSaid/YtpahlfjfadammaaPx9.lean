/- Functions and contracts, written by a program (mkprint.py, a wrapper of ours around the print); texts between GIVEN marks are ours. -/
import Derived.Test.YtpahlfjfadammaaPx0
import Derived.Test.YtpahlfjfadammaaPx2
import Derived.Test.YtpahlfjfadammaaPx3
import Derived.Test.YtpahlfjfadammaaPx6
import Derived.Test.YtpahlfjfadammaaPx7
import Derived.Test.YtpahlfjfadammaaPx8
namespace Go.Proofs.Ytpahlfjfadammaa.P
open Go.RowKit Go.Proofs.YtpahlfjfadammaaW.PrintWords Go.Proofs.YtpahlfjfadammaaW.PrintLast Go.Proofs.YtpahlfjfadammaaW.PrintMore
attribute [local go_sem] max2_int min2_int max_two min_two max_three min_three max_four min_four   -- for this text's walks alone
set_option linter.unusedVariables false
set_option linter.unusedSimpArgs false

/-! ### cambiumlaw13_InodeForm: function 7 -/
mutual
def cambiumlaw13_InodeForm.j0 : Nat → List Int → Bool → Option (Bool)
  | 0, _, _ => none
  | k + 1, x0, x3 => (inode_TakeEntry.f k x0).bind fun bt358 => (if bt358.2.2.2 = 0 then ((inode_PutEntry.f k bt358.1 bt358.2.1 bt358.2.2.1).bind fun bt363 => (if bt363.2 = 0 then (if (strOfNums bt363.1).toList = (strOfNums x0).toList then (cambiumlaw13_InodeForm.j1 k x0 x3) else (some false)) else (some false))) else (cambiumlaw13_InodeForm.j1 k x0 x3))
def cambiumlaw13_InodeForm.j1 : Nat → List Int → Bool → Option (Bool)
  | 0, _, _ => none
  | k + 1, x0, x3 => (inode_TakeExtent.f k x0).bind fun bt367 => (if bt367.2.2 = 0 then ((inode_PutExtent.f k bt367.1 bt367.2.1).bind fun bt373 => (if bt373.2 = 0 then (if (strOfNums bt373.1).toList = (strOfNums x0).toList then (some x3) else (some false)) else (some false))) else (some x3))
end
def cambiumlaw13_InodeForm.f (k : Nat) (l0 : List Int) : Option (Bool) := (cambiumlaw13_shown.f k).bind fun t345 => ((cambiumlaw13_few.f l0).bind fun t346 => ((inode_Take.f k t346).bind fun bt349 => (if bt349.2.2.2 = 0 then ((inode_Put.f k bt349.1 bt349.2.1 bt349.2.2.1).bind fun bt354 => (if bt354.2 = 0 then (if (strOfNums bt354.1).toList = (strOfNums t346).toList then (cambiumlaw13_InodeForm.j0 k t346 t345) else (some false)) else (some false))) else (cambiumlaw13_InodeForm.j0 k t346 t345))))
theorem cambiumlaw13_InodeForm.mono_l : ∀ k, (∀ y0 y1, LeO (cambiumlaw13_InodeForm.j0 k y0 y1) (cambiumlaw13_InodeForm.j0 (k + 1) y0 y1)) ∧ (∀ y0 y1, LeO (cambiumlaw13_InodeForm.j1 k y0 y1) (cambiumlaw13_InodeForm.j1 (k + 1) y0 y1))
  | 0 => ⟨fun _ _ r h => by simp [cambiumlaw13_InodeForm.j0] at h, fun _ _ r h => by simp [cambiumlaw13_InodeForm.j1] at h⟩
  | k + 1 => by
    obtain ⟨ih0, ih1⟩ := cambiumlaw13_InodeForm.mono_l k
    refine ⟨?_, ?_⟩
    · intro y0 y1
      unfold cambiumlaw13_InodeForm.j0
      repeat' first
      | (with_reducible exact ih0 _ _)
      | (with_reducible exact ih1 _ _)
      | (with_reducible exact cambiumlaw13_shown.mono _)
      | (with_reducible exact inode_Put.mono _ _ _ _)
      | (with_reducible exact inode_PutEntry.mono _ _ _ _)
      | (with_reducible exact inode_PutExtent.mono _ _ _)
      | (with_reducible exact inode_Take.mono _ _)
      | (with_reducible exact inode_TakeEntry.mono _ _)
      | (with_reducible exact inode_TakeExtent.mono _ _)
      | (with_reducible exact LeO.refl _)
      | (with_reducible exact LeO.none _)
      | (with_reducible refine LeO.ite ?_ ?_)
      | (with_reducible refine LeO.bind ?_ (fun _ => ?_))
      | exact ih0 _ _
      | exact ih1 _ _
      | exact cambiumlaw13_shown.mono _
      | exact inode_Put.mono _ _ _ _
      | exact inode_PutEntry.mono _ _ _ _
      | exact inode_PutExtent.mono _ _ _
      | exact inode_Take.mono _ _
      | exact inode_TakeEntry.mono _ _
      | exact inode_TakeExtent.mono _ _
      | exact LeO.none _
      | refine LeO.ite ?_ ?_
      | refine LeO.bind ?_ (fun _ => ?_)
    · intro y0 y1
      unfold cambiumlaw13_InodeForm.j1
      repeat' first
      | (with_reducible exact ih0 _ _)
      | (with_reducible exact ih1 _ _)
      | (with_reducible exact cambiumlaw13_shown.mono _)
      | (with_reducible exact inode_Put.mono _ _ _ _)
      | (with_reducible exact inode_PutEntry.mono _ _ _ _)
      | (with_reducible exact inode_PutExtent.mono _ _ _)
      | (with_reducible exact inode_Take.mono _ _)
      | (with_reducible exact inode_TakeEntry.mono _ _)
      | (with_reducible exact inode_TakeExtent.mono _ _)
      | (with_reducible exact LeO.refl _)
      | (with_reducible exact LeO.none _)
      | (with_reducible refine LeO.ite ?_ ?_)
      | (with_reducible refine LeO.bind ?_ (fun _ => ?_))
      | exact ih0 _ _
      | exact ih1 _ _
      | exact cambiumlaw13_shown.mono _
      | exact inode_Put.mono _ _ _ _
      | exact inode_PutEntry.mono _ _ _ _
      | exact inode_PutExtent.mono _ _ _
      | exact inode_Take.mono _ _
      | exact inode_TakeEntry.mono _ _
      | exact inode_TakeExtent.mono _ _
      | exact LeO.none _
      | refine LeO.ite ?_ ?_
      | refine LeO.bind ?_ (fun _ => ?_)
theorem cambiumlaw13_InodeForm.mono : ∀ a0 k, LeO (cambiumlaw13_InodeForm.f k a0) (cambiumlaw13_InodeForm.f (k + 1) a0) := by
  intro a0 k
  obtain ⟨ih0, ih1⟩ := cambiumlaw13_InodeForm.mono_l k
  unfold cambiumlaw13_InodeForm.f
  repeat' first
      | (with_reducible exact ih0 _ _)
      | (with_reducible exact ih1 _ _)
      | (with_reducible exact cambiumlaw13_shown.mono _)
      | (with_reducible exact inode_Put.mono _ _ _ _)
      | (with_reducible exact inode_PutEntry.mono _ _ _ _)
      | (with_reducible exact inode_PutExtent.mono _ _ _)
      | (with_reducible exact inode_Take.mono _ _)
      | (with_reducible exact inode_TakeEntry.mono _ _)
      | (with_reducible exact inode_TakeExtent.mono _ _)
      | (with_reducible exact LeO.refl _)
      | (with_reducible exact LeO.none _)
      | (with_reducible refine LeO.ite ?_ ?_)
      | (with_reducible refine LeO.bind ?_ (fun _ => ?_))
      | exact ih0 _ _
      | exact ih1 _ _
      | exact cambiumlaw13_shown.mono _
      | exact inode_Put.mono _ _ _ _
      | exact inode_PutEntry.mono _ _ _ _
      | exact inode_PutExtent.mono _ _ _
      | exact inode_Take.mono _ _
      | exact inode_TakeEntry.mono _ _
      | exact inode_TakeExtent.mono _ _
      | exact LeO.none _
      | refine LeO.ite ?_ ?_
      | refine LeO.bind ?_ (fun _ => ?_)
set_option maxHeartbeats 8000000 in
set_option maxRecDepth 100000 in
theorem cambiumlaw13_InodeForm.calls (k : Nat) (A0 : Option Addr) (c0 : Nat) (l0 : List Int) (r : Bool) (w : World) (hr0 : Kd.C (Kd.int .u8) w A0 l0.length l0) (hc0 : l0.length ≤ c0) (hr_ : Aside0 (r = true)) (h : cambiumlaw13_InodeForm.f k l0 = some r) :
    Calls Try.prog 7 #[.slice A0 l0.length c0] w fun e w' => e = .returned (.bool r) ∧ Below w.heap.size w w' := by
  have hu23 := Try.underlying23
  have hu25 := Try.underlying25
  have hu28 := Try.underlying28
  have HR0 := Aside0.mk hr0
  have HC0 := Aside0.mk hc0
  clear hr0 hc0
  have HB := Aside0.mk (Below.refl w.heap.size w)
  have H : ((cambiumlaw13_shown.f k).bind fun t345 => ((cambiumlaw13_few.f l0).bind fun t346 => ((inode_Take.f k t346).bind fun bt349 => (if bt349.2.2.2 = 0 then ((inode_Put.f k bt349.1 bt349.2.1 bt349.2.2.1).bind fun bt354 => (if bt354.2 = 0 then (if (strOfNums bt354.1).toList = (strOfNums t346).toList then (cambiumlaw13_InodeForm.j0 k t346 t345) else (some false)) else (some false))) else (cambiumlaw13_InodeForm.j0 k t346 t345))))) = some r := h
  clear h
  replace H := Option.bind_eq_some_iff.mp H
  obtain ⟨t345, A20, H⟩ := H
  replace H : ((cambiumlaw13_few.f l0).bind fun t346 => ((inode_Take.f k t346).bind fun bt349 => (if bt349.2.2.2 = 0 then ((inode_Put.f k bt349.1 bt349.2.1 bt349.2.2.1).bind fun bt354 => (if bt354.2 = 0 then (if (strOfNums bt354.1).toList = (strOfNums t346).toList then (cambiumlaw13_InodeForm.j0 k t346 t345) else (some false)) else (some false))) else (cambiumlaw13_InodeForm.j0 k t346 t345)))) = some r := H
  have A2 := Aside0.mk A20
  clear A20
  replace H := Option.bind_eq_some_iff.mp H
  obtain ⟨t346, A30, H⟩ := H
  replace H : ((inode_Take.f k t346).bind fun bt349 => (if bt349.2.2.2 = 0 then ((inode_Put.f k bt349.1 bt349.2.1 bt349.2.2.1).bind fun bt354 => (if bt354.2 = 0 then (if (strOfNums bt354.1).toList = (strOfNums t346).toList then (cambiumlaw13_InodeForm.j0 k t346 t345) else (some false)) else (some false))) else (cambiumlaw13_InodeForm.j0 k t346 t345))) = some r := H
  have A3 := Aside0.mk A30
  clear A30
  replace H := Option.bind_eq_some_iff.mp H
  obtain ⟨⟨t349, t350, t351, t352⟩, A40, H⟩ := H
  replace H : (if t352 = 0 then ((inode_Put.f k t349 t350 t351).bind fun bt354 => (if bt354.2 = 0 then (if (strOfNums bt354.1).toList = (strOfNums t346).toList then (cambiumlaw13_InodeForm.j0 k t346 t345) else (some false)) else (some false))) else (cambiumlaw13_InodeForm.j0 k t346 t345)) = some r := H
  have A4 := Aside0.mk A40
  clear A40
  have HC5 := Aside0.mk H
  clear H
  go_enter Try.func7, Try.ntmps7
  go_upto_if 23 with (first | ((with_reducible refine gate_callee (f := 8) rfl ?_); refine goesL_ (some 14) rfl rfl Try.func8 (by kernel_rfl) rfl #[] rfl (by (try simp only [List.map_toArray, List.map_cons, List.map_nil]); first | done | rfl | (simp only [List.length_drop, List.length_take]; rfl)) ?_; (with_reducible refine (cambiumlaw13_shown.calls k  t345 _ A2.out).mono ?_); rintro e w6 ⟨rfl, hb⟩; refine ⟨_, rfl, ?_⟩; have n0_ := Aside0.mk (below_step (by repeat (first | (with_reducible first | exact HB.out | apply below_alloc | apply pw_below_drewN | apply below_drew1) | exact HB.out)) hb); clear HB; have HB := n0_; clear n0_; (try clear hb); (try clear hb2); (try clear hk); (try clear hi)) | ((with_reducible refine gate_callee (f := 9) rfl ?_); refine goesL_ (some 16) rfl rfl Try.func9 (by kernel_rfl) rfl #[.slice A0 l0.length c0] rfl (by (try simp only [List.map_toArray, List.map_cons, List.map_nil]); first | done | rfl | (simp only [List.length_drop, List.length_take]; rfl)) ?_; (with_reducible refine (cambiumlaw13_few.calls (fun k_ => k_ < w.heap.size) _ _ l0 t346 _ ?side1 A3.out).mono ?_); (case side1 => exact Kd.V_mk HC0.out (Kd.F_below (Kd.C_F (Kd.heap_int .u8) HR0.out) (by repeat (first | (with_reducible first | exact HB.out | apply below_alloc | apply pw_below_drewN | apply below_drew1) | exact HB.out)))); rintro e w7 ⟨v347, rfl, ho0, hb⟩; refine ⟨_, rfl, ?_⟩; have n0_ := Aside0.mk (Kd.V_lower (Kd.V_mono (ok' := fun k_ => True) ho0 (fun k_ hk_ => trivial)) (below_size (by repeat (first | (with_reducible first | exact HB.out | apply below_alloc | apply pw_below_drewN | apply below_drew1) | exact HB.out)))); have n1_ := Aside0.mk (below_step (by repeat (first | (with_reducible first | exact HB.out | apply below_alloc | apply pw_below_drewN | apply below_drew1) | exact HB.out)) hb); clear HB; have HO348 := n0_; have HB := n1_; clear n0_ n1_; (try clear hb); (try clear hb2); (try clear hk); (try clear hi); (try clear ho0); obtain ⟨Ao8, co8, eo8⟩ := Kd.V_slice HO348.out; subst eo8) | ((with_reducible refine gate_callee (f := 20) rfl ?_); refine goesL_ (some 19) rfl rfl Try.func20 (by kernel_rfl) rfl #[.slice Ao8 t346.length co8] rfl (by (try simp only [List.map_toArray, List.map_cons, List.map_nil]); first | done | rfl | (simp only [List.length_drop, List.length_take]; rfl)) ?_; (with_reducible refine (inode_Take.calls k _ _ t346 t349 t350 t351 t352 _ ?side1 ?side2 A4.out).mono ?_); (case side1 => repeat (first | exact (Kd.V_reads' HO348.out).2.2 | (with_reducible refine Kd.C_alloc ?_ _) | (with_reducible refine Kd.C_drewN ?_ _) | (with_reducible refine Kd.C_drew ?_))); (case side2 => exact (Kd.V_reads' HO348.out).2.1); rintro e w9 ⟨rfl, hb⟩; refine ⟨_, rfl, ?_⟩; have n0_ := Aside0.mk (Kd.V_below (by (with_reducible repeat (first | apply Kd.V_alloc | apply Kd.V_drewN | apply Kd.V_drew)); exact HO348.out) hb); have n1_ := Aside0.mk (below_step (by repeat (first | (with_reducible first | exact HB.out | apply below_alloc | apply pw_below_drewN | apply below_drew1) | exact HB.out)) hb); clear HO348; clear HB; have HO348 := n0_; have HB := n1_; clear n0_ n1_; (try clear hb); (try clear hb2); (try clear hk); (try clear hi)) | ((with_reducible refine gate_dst (N := 4) rfl ?_); refine box_event ?hg (N := 4) ?hd (cs := #[.int .i64 0, .int .i64 0, .int .i64 0]) (t := 23) ?hr ?_; (case hd => rfl); (case hg => rfl); (case hr => first | (go_simp; done) | (go_simp; rfl)); intro gb353 hg w10 hbox hb; have n0_ := Aside0.mk (Kd.V_below (Kd.V_elderB (by (with_reducible repeat (first | apply Kd.V_alloc | apply Kd.V_drewN | apply Kd.V_drew)); exact HO348.out) gb353 (Nat.le_of_eq hg.symm)) hb); have n1_ := Aside0.mk (below_step (by repeat (first | (with_reducible first | exact HB.out | apply below_alloc | apply pw_below_drewN | apply below_drew1) | exact HB.out)) hb); have n2_ := Aside0.mk (hbox); have n3_ := Aside0.mk ((by rw [hg]; exact (below_size (by repeat (first | (with_reducible first | exact HB.out | apply below_alloc | apply pw_below_drewN | apply below_drew1) | exact HB.out))) : w.heap.size ≤ gb353)); have n4_ := Aside0.mk ((by rw [hg]; exact (below_size (by repeat (first | (with_reducible first | exact HB.out | apply below_alloc | apply pw_below_drewN | apply below_drew1) | exact HB.out))) : w.heap.size ≤ gb353)); clear HO348; clear HB; have HO348 := n0_; have HB := n1_; have BK353 := n2_; have GW353 := n3_; have GE353 := n4_; clear n0_ n1_ n2_ n3_ n4_; clear hb hbox hg; have hcz11_0 : w10.cell? ⟨gb353, 0, none⟩ = some (.int .i64 0) := (blk_cell BK353.out 0).trans rfl; have hcz11_1 : w10.cell? ⟨gb353, 1, none⟩ = some (.int .i64 0) := (blk_cell BK353.out 1).trans rfl; have hcz11_2 : w10.cell? ⟨gb353, 2, none⟩ = some (.int .i64 0) := (blk_cell BK353.out 2).trans rfl; have hfz11_0 := blk_frozen BK353.out 0; have hfz11_1 := blk_frozen BK353.out 1; have hfz11_2 := blk_frozen BK353.out 2))
  (try simp only [Act.put, List.setIfInBounds_toArray, List.set_cons_zero, List.set_cons_succ])
  go_cut [] (fun wc => ∃ (kq : Nat), Aside0 (cambiumlaw13_InodeForm.j0 kq t346 t345 = some r) ∧ Aside0 (kq ≤ k) ∧ Aside0 (Kd.V (Kd.int .u8) 5 wc w.heap.size (fun k_ => k_ ≠ gb353) (.slice Ao8 t346.length co8) t346) ∧ Aside0 (wc.heap[gb353]? = some (.cells #[.int .i64 t349, .int .i64 t350, .int .i64 t351] 23 (0, 0))) ∧ Aside0 (Below w.heap.size w wc))
  case first =>
    have H := HC5.out
    clear HC5
    by_cases c12 : t352 = 0
    · rw [if_pos c12] at H
      have c12b0 : (t352 == 0) = true := beq_iff_eq.mpr c12
      have c12b1 : (t352 != 0) = false := bne_eq_false_iff_eq.mpr c12
      clear c12
      (first | rw [c12b0] | (simp only [i64_w, i32_w]; rw [c12b0]) | skip)
      replace H := Option.bind_eq_some_iff.mp H
      obtain ⟨⟨t354, t357⟩, A130, H⟩ := H
      replace H : (if t357 = 0 then (if (strOfNums t354).toList = (strOfNums t346).toList then (cambiumlaw13_InodeForm.j0 k t346 t345) else (some false)) else (some false)) = some r := H
      have A13 := Aside0.mk A130
      clear A130
      by_cases c14 : t357 = 0
      · rw [if_pos c14] at H
        have c14b0 : (t357 == 0) = true := beq_iff_eq.mpr c14
        have c14b1 : (t357 != 0) = false := bne_eq_false_iff_eq.mpr c14
        clear c14
        by_cases c15 : (strOfNums t354).toList = (strOfNums t346).toList
        · rw [if_pos c15] at H
          have c15b0 : ((strOfNums t354).toList == (strOfNums t346).toList) = true := beq_iff_eq.mpr c15
          have c15b1 : ((strOfNums t354).toList != (strOfNums t346).toList) = false := bne_eq_false_iff_eq.mpr c15
          clear c15
          have H' := Aside0.mk H
          clear H
          have hcz16_0 : w10.cell? ⟨gb353, 0, none⟩ = some (.int .i64 0) := (blk_cell BK353.out 0).trans rfl
          have hcz16_1 : w10.cell? ⟨gb353, 1, none⟩ = some (.int .i64 0) := (blk_cell BK353.out 1).trans rfl
          have hcz16_2 : w10.cell? ⟨gb353, 2, none⟩ = some (.int .i64 0) := (blk_cell BK353.out 2).trans rfl
          have hfz16_0 := blk_frozen BK353.out 0
          have hfz16_1 := blk_frozen BK353.out 1
          have hfz16_2 := blk_frozen BK353.out 2
          go_wp2_with (first | ((with_reducible refine gate_callee (f := 10) rfl ?_); refine goesL_ (some 26) rfl rfl Try.func10 (by kernel_rfl) rfl #[.agg #[.int .i64 t349, .int .i64 t350, .int .i64 t351]] rfl (by (try simp only [List.map_toArray, List.map_cons, List.map_nil]); first | done | rfl | (simp only [List.length_drop, List.length_take]; rfl)) ?_; (with_reducible refine (inode_Put.calls k t349 t350 t351 t354 t357 _ A13.out).mono ?_); rintro e w17 ⟨v355, rfl, ho0, hb⟩; refine ⟨_, rfl, ?_⟩; have n0_ := Aside0.mk (Kd.V_below (by (with_reducible repeat (first | apply Kd.V_alloc | apply Kd.V_drewN | apply Kd.V_drew)); exact (Kd.V_mono (Kd.V_far (p := ⟨gb353, 2, none⟩) (Kd.V_far (p := ⟨gb353, 1, none⟩) (Kd.V_far (p := ⟨gb353, 0, none⟩) (Kd.V_mono HO348.out (fun k_ hk => (⟨hk, hk.2⟩ : _ ∧ k_ ≠ gb353))) (fun _ hk => hk.2) (.int .i64 t349)) (fun _ hk => hk.2) (.int .i64 t350)) (fun _ hk => hk.2) (.int .i64 t351)) (fun _ h_ => h_.1))) hb); have n1_ := Aside0.mk (Kd.V_lower (Kd.V_mono (ok' := fun k_ => k_ ≠ gb353) ho0 (fun k_ hk_ => (Kd.freshB (g := gb353) (o := .cells #[.int .i64 t349, .int .i64 t350, .int .i64 t351] 23 (0, 0)) (by (with_reducible repeat (first | refine blk_drewN ?_ _ | refine blk_drew ?_ | refine blk_alloc ?_ _)); refine blk_put (cs := #[.int .i64 t349, .int .i64 t350, .int .i64 0]) ?_ 2 _ rfl; (with_reducible repeat (first | refine blk_drewN ?_ _ | refine blk_drew ?_ | refine blk_alloc ?_ _)); refine blk_put (cs := #[.int .i64 t349, .int .i64 0, .int .i64 0]) ?_ 1 _ rfl; (with_reducible repeat (first | refine blk_drewN ?_ _ | refine blk_drew ?_ | refine blk_alloc ?_ _)); refine blk_put (cs := #[.int .i64 0, .int .i64 0, .int .i64 0]) ?_ 0 _ rfl; (with_reducible repeat (first | refine blk_drewN ?_ _ | refine blk_drew ?_ | refine blk_alloc ?_ _)); exact BK353.out) k_ hk_))) (below_size (by repeat (first | (with_reducible first | exact HB.out | apply below_alloc | apply pw_below_drewN | apply below_drew1 | refine below_set ?_ GE353.out) | exact HB.out)))); have n2_ := Aside0.mk (blk_below (g := gb353) (o := .cells #[.int .i64 t349, .int .i64 t350, .int .i64 t351] 23 (0, 0)) (by (with_reducible repeat (first | refine blk_drewN ?_ _ | refine blk_drew ?_ | refine blk_alloc ?_ _)); refine blk_put (cs := #[.int .i64 t349, .int .i64 t350, .int .i64 0]) ?_ 2 _ rfl; (with_reducible repeat (first | refine blk_drewN ?_ _ | refine blk_drew ?_ | refine blk_alloc ?_ _)); refine blk_put (cs := #[.int .i64 t349, .int .i64 0, .int .i64 0]) ?_ 1 _ rfl; (with_reducible repeat (first | refine blk_drewN ?_ _ | refine blk_drew ?_ | refine blk_alloc ?_ _)); refine blk_put (cs := #[.int .i64 0, .int .i64 0, .int .i64 0]) ?_ 0 _ rfl; (with_reducible repeat (first | refine blk_drewN ?_ _ | refine blk_drew ?_ | refine blk_alloc ?_ _)); exact BK353.out) hb); have n3_ := Aside0.mk (below_step (by repeat (first | (with_reducible first | exact HB.out | apply below_alloc | apply pw_below_drewN | apply below_drew1 | refine below_set ?_ GE353.out) | exact HB.out)) hb); clear HO348; clear BK353; clear HB; have HO348 := n0_; have HO356 := n1_; have BK353 := n2_; have HB := n3_; clear n0_ n1_ n2_ n3_; (try clear hb); (try clear hb2); (try clear hk); (try clear hi); (try clear ho0); (first | (have hcv18 := own_string (P := Try.prog) Try.underlying26 Try.underlying5 Try.underlying9 (Kd.own_of_R HO356.out); have hcv18n := fun n_ : Nat => own_string (P := Try.prog) Try.underlying26 Try.underlying5 Try.underlying9 (Kd.own_of_R (Kd.R_drewN HO356.out n_))) | (have hcv18 := fun c_ : Nat => Kd.C_string (c := c_) (P := Try.prog) Try.underlying26 Try.underlying5 Try.underlying9 (Kd.V_reads' HO356.out).2.2; have hcv18n := fun (c_ n_ : Nat) => Kd.C_string (c := c_) (P := Try.prog) Try.underlying26 Try.underlying5 Try.underlying9 (Kd.C_drewN (Kd.V_reads' HO356.out).2.2 n_)) | (have hcv18 := Own.V_string (P := Try.prog) Try.underlying26 Try.underlying5 Try.underlying9 HO356.out; have hcv18n := fun (n_ : Nat) => Own.V_string (P := Try.prog) Try.underlying26 Try.underlying5 Try.underlying9 (Kd.V_drewN HO356.out n_))); (first | (have hcv19 := own_string (P := Try.prog) Try.underlying26 Try.underlying5 Try.underlying9 (Kd.own_of_R HO348.out); have hcv19n := fun n_ : Nat => own_string (P := Try.prog) Try.underlying26 Try.underlying5 Try.underlying9 (Kd.own_of_R (Kd.R_drewN HO348.out n_))) | (have hcv19 := fun c_ : Nat => Kd.C_string (c := c_) (P := Try.prog) Try.underlying26 Try.underlying5 Try.underlying9 (Kd.V_reads' HO348.out).2.2; have hcv19n := fun (c_ n_ : Nat) => Kd.C_string (c := c_) (P := Try.prog) Try.underlying26 Try.underlying5 Try.underlying9 (Kd.C_drewN (Kd.V_reads' HO348.out).2.2 n_)) | (have hcv19 := Own.V_string (P := Try.prog) Try.underlying26 Try.underlying5 Try.underlying9 HO348.out; have hcv19n := fun (n_ : Nat) => Own.V_string (P := Try.prog) Try.underlying26 Try.underlying5 Try.underlying9 (Kd.V_drewN HO348.out n_)))))
          go_meet
          case rel => exact ⟨_, H', ⟨by first | omega | exact Nat.le_refl _⟩, ⟨by (with_reducible repeat (first | apply Kd.V_alloc | apply Kd.V_drewN | apply Kd.V_drew)); exact Kd.V_mono HO348.out (fun _ hk => hk.2)⟩, ⟨by (with_reducible repeat (first | refine blk_drewN ?_ _ | refine blk_drew ?_ | refine blk_alloc ?_ _)); exact BK353.out⟩, ⟨by repeat (first | (with_reducible first | exact HB.out | apply below_alloc | apply pw_below_drewN | apply below_drew1 | refine below_set ?_ GE353.out) | exact HB.out)⟩⟩
        · rw [if_neg c15] at H
          have c15b0 : ((strOfNums t354).toList == (strOfNums t346).toList) = false := beq_eq_false_iff_ne.mpr c15
          have c15b1 : ((strOfNums t354).toList != (strOfNums t346).toList) = true := bne_iff_ne.mpr c15
          exact absurd (Option.some.inj H) (by rw [hr_.out]; decide)
      · rw [if_neg c14] at H
        have c14b0 : (t357 == 0) = false := beq_eq_false_iff_ne.mpr c14
        have c14b1 : (t357 != 0) = true := bne_iff_ne.mpr c14
        exact absurd (Option.some.inj H) (by rw [hr_.out]; decide)
    · rw [if_neg c12] at H
      have c12b0 : (t352 == 0) = false := beq_eq_false_iff_ne.mpr c12
      have c12b1 : (t352 != 0) = true := bne_iff_ne.mpr c12
      (first | rw [c12b0] | (simp only [i64_w, i32_w]; rw [c12b0]) | skip)
      have H' := Aside0.mk H
      clear H
      go_wp2
      go_meet
      case rel => exact ⟨_, H', ⟨by first | omega | exact Nat.le_refl _⟩, ⟨by (with_reducible repeat (first | apply Kd.V_alloc | apply Kd.V_drewN | apply Kd.V_drew)); exact Kd.V_mono (Kd.V_far (p := ⟨gb353, 2, none⟩) (Kd.V_far (p := ⟨gb353, 1, none⟩) (Kd.V_far (p := ⟨gb353, 0, none⟩) (Kd.V_mono HO348.out (fun k_ hk => (⟨hk, hk.2⟩ : _ ∧ k_ ≠ gb353))) (fun _ hk => hk.2) (.int .i64 t349)) (fun _ hk => hk.2) (.int .i64 t350)) (fun _ hk => hk.2) (.int .i64 t351)) (fun _ hk => hk.1.2)⟩, ⟨by (with_reducible repeat (first | refine blk_drewN ?_ _ | refine blk_drew ?_ | refine blk_alloc ?_ _)); refine blk_put (cs := #[.int .i64 t349, .int .i64 t350, .int .i64 0]) ?_ 2 _ rfl; (with_reducible repeat (first | refine blk_drewN ?_ _ | refine blk_drew ?_ | refine blk_alloc ?_ _)); refine blk_put (cs := #[.int .i64 t349, .int .i64 0, .int .i64 0]) ?_ 1 _ rfl; (with_reducible repeat (first | refine blk_drewN ?_ _ | refine blk_drew ?_ | refine blk_alloc ?_ _)); refine blk_put (cs := #[.int .i64 0, .int .i64 0, .int .i64 0]) ?_ 0 _ rfl; (with_reducible repeat (first | refine blk_drewN ?_ _ | refine blk_drew ?_ | refine blk_alloc ?_ _)); exact BK353.out⟩, ⟨by repeat (first | (with_reducible first | exact HB.out | apply below_alloc | apply pw_below_drewN | apply below_drew1 | refine below_set ?_ GE353.out) | exact HB.out)⟩⟩
  case rest =>
    clear HC5
    try clear c1
    try clear hcv1
    try clear c2
    try clear p2
    try clear c7
    try clear c8
    try clear c9
    try clear c10
    try clear c12
    try clear c12b0
    try clear c12b1
    try clear c14
    try clear c14b0
    try clear c14b1
    try clear c15
    try clear c15b0
    try clear c15b1
    try clear hcv18
    try clear hcv19
    try clear hcz11_0
    try clear hcz11_1
    try clear hcz11_2
    try clear hcz16_0
    try clear hcz16_1
    try clear hcz16_2
    try clear hfz11_0
    try clear hfz11_1
    try clear hfz11_2
    try clear hfz16_0
    try clear hfz16_1
    try clear hfz16_2
    obtain ⟨kq, HA, HJ4, HO_0, BK353, HB⟩ := hcut
    cases kq with
    | zero => exact absurd HA.out (by simp [cambiumlaw13_InodeForm.j0])
    | succ kj4 =>
      have H := HA.out
      clear HA
      simp only [cambiumlaw13_InodeForm.j0] at H
      replace H := Option.bind_eq_some_iff.mp H
      obtain ⟨⟨t358, t359, t360, t361⟩, A200, H⟩ := H
      replace H : (if t361 = 0 then ((inode_PutEntry.f kj4 t358 t359 t360).bind fun bt363 => (if bt363.2 = 0 then (if (strOfNums bt363.1).toList = (strOfNums t346).toList then (cambiumlaw13_InodeForm.j1 kj4 t346 t345) else (some false)) else (some false))) else (cambiumlaw13_InodeForm.j1 kj4 t346 t345)) = some r := H
      have A20 := Aside0.mk A200
      clear A200
      have HC21 := Aside0.mk H
      clear H
      go_upto_if 44 with (first | ((with_reducible refine gate_callee (f := 22) rfl ?_); refine goesL_ (some 40) rfl rfl Try.func22 (by kernel_rfl) rfl #[.slice Ao8 t346.length co8] rfl (by (try simp only [List.map_toArray, List.map_cons, List.map_nil]); first | done | rfl | (simp only [List.length_drop, List.length_take]; rfl)) ?_; (with_reducible refine (inode_TakeEntry.calls kj4 _ _ t346 t358 t359 t360 t361 _ ?side1 ?side2 A20.out).mono ?_); (case side1 => repeat (first | exact (Kd.V_reads' HO_0.out).2.2 | (with_reducible refine Kd.C_alloc ?_ _) | (with_reducible refine Kd.C_drewN ?_ _) | (with_reducible refine Kd.C_drew ?_))); (case side2 => exact (Kd.V_reads' HO_0.out).2.1); rintro e w22 ⟨rfl, hb⟩; refine ⟨_, rfl, ?_⟩; have n0_ := Aside0.mk (Kd.V_below (by (with_reducible repeat (first | apply Kd.V_alloc | apply Kd.V_drewN | apply Kd.V_drew)); exact HO_0.out) hb); have n1_ := Aside0.mk (blk_below (g := gb353) (o := .cells #[.int .i64 t349, .int .i64 t350, .int .i64 t351] 23 (0, 0)) (by (with_reducible repeat (first | refine blk_drewN ?_ _ | refine blk_drew ?_ | refine blk_alloc ?_ _)); exact BK353.out) hb); have n2_ := Aside0.mk (below_step (by repeat (first | (with_reducible first | exact HB.out | apply below_alloc | apply pw_below_drewN | apply below_drew1 | refine below_set ?_ GE353.out) | exact HB.out)) hb); clear HO_0; clear BK353; clear HB; have HO_0 := n0_; have BK353 := n1_; have HB := n2_; clear n0_ n1_ n2_; (try clear hb); (try clear hb2); (try clear hk); (try clear hi)) | ((with_reducible refine gate_dst (N := 8) rfl ?_); refine box_event ?hg (N := 8) ?hd (cs := #[.string (⟨#[]⟩ : ByteArray), .int .i64 0, .int .i64 0]) (t := 25) ?hr ?_; (case hd => rfl); (case hg => rfl); (case hr => first | (go_simp; done) | (go_simp; rfl)); intro gb362 hg w23 hbox hb; have n0_ := Aside0.mk (Kd.V_below (Kd.V_elderB (by (with_reducible repeat (first | apply Kd.V_alloc | apply Kd.V_drewN | apply Kd.V_drew)); exact HO_0.out) gb362 (Nat.le_of_eq hg.symm)) hb); have n1_ := Aside0.mk (blk_below (g := gb353) (o := .cells #[.int .i64 t349, .int .i64 t350, .int .i64 t351] 23 (0, 0)) (by (with_reducible repeat (first | refine blk_drewN ?_ _ | refine blk_drew ?_ | refine blk_alloc ?_ _)); exact BK353.out) hb); have n2_ := Aside0.mk (below_step (by repeat (first | (with_reducible first | exact HB.out | apply below_alloc | apply pw_below_drewN | apply below_drew1 | refine below_set ?_ GE353.out) | exact HB.out)) hb); have n3_ := Aside0.mk (hbox); have n4_ := Aside0.mk ((by rw [hg]; exact (below_size (by repeat (first | (with_reducible first | exact HB.out | apply below_alloc | apply pw_below_drewN | apply below_drew1 | refine below_set ?_ GE353.out) | exact HB.out))) : w.heap.size ≤ gb362)); have n5_ := Aside0.mk ((by rw [hg]; exact (below_size (by repeat (first | (with_reducible first | exact HB.out | apply below_alloc | apply pw_below_drewN | apply below_drew1 | refine below_set ?_ GE353.out) | exact HB.out))) : w.heap.size ≤ gb362)); have n6_ := Aside0.mk ((by rw [hg]; exact Nat.ne_of_lt (blk_lt (g := gb353) (o := .cells #[.int .i64 t349, .int .i64 t350, .int .i64 t351] 23 (0, 0)) (by (with_reducible repeat (first | refine blk_drewN ?_ _ | refine blk_drew ?_ | refine blk_alloc ?_ _)); exact BK353.out)) : gb353 ≠ gb362)); have n7_ := Aside0.mk ((by rw [hg]; exact Nat.ne_of_gt (blk_lt (g := gb353) (o := .cells #[.int .i64 t349, .int .i64 t350, .int .i64 t351] 23 (0, 0)) (by (with_reducible repeat (first | refine blk_drewN ?_ _ | refine blk_drew ?_ | refine blk_alloc ?_ _)); exact BK353.out)) : gb362 ≠ gb353)); clear HO_0; clear BK353; clear HB; have HO_0 := n0_; have BK353 := n1_; have HB := n2_; have BK362 := n3_; have GW362 := n4_; have GE362 := n5_; have NB353_362 := n6_; have NB362_353 := n7_; clear n0_ n1_ n2_ n3_ n4_ n5_ n6_ n7_; clear hb hbox hg; have hnb24 := NB362_353.out; have hnc24 := NB353_362.out; have hcz25_0 : w23.cell? ⟨gb362, 0, none⟩ = some (.string (⟨#[]⟩ : ByteArray)) := (blk_cell BK362.out 0).trans rfl; have hcz25_1 : w23.cell? ⟨gb362, 1, none⟩ = some (.int .i64 0) := (blk_cell BK362.out 1).trans rfl; have hcz25_2 : w23.cell? ⟨gb362, 2, none⟩ = some (.int .i64 0) := (blk_cell BK362.out 2).trans rfl; have hfz25_0 := blk_frozen BK362.out 0; have hfz25_1 := blk_frozen BK362.out 1; have hfz25_2 := blk_frozen BK362.out 2))
      (try simp only [Act.put, List.setIfInBounds_toArray, List.set_cons_zero, List.set_cons_succ])
      go_cut [] (fun wc => ∃ (kq : Nat), Aside0 (cambiumlaw13_InodeForm.j1 kq t346 t345 = some r) ∧ Aside0 (kq ≤ kj4) ∧ Aside0 (Kd.V (Kd.int .u8) 5 wc w.heap.size (fun k_ => k_ ≠ gb353 ∧ k_ ≠ gb362) (.slice Ao8 t346.length co8) t346) ∧ Aside0 (wc.heap[gb353]? = some (.cells #[.int .i64 t349, .int .i64 t350, .int .i64 t351] 23 (0, 0))) ∧ Aside0 (wc.heap[gb362]? = some (.cells #[.string t358, .int .i64 t359, .int .i64 t360] 25 (0, 0))) ∧ Aside0 (Below w.heap.size w wc))
      case first =>
        have H := HC21.out
        clear HC21
        by_cases c26 : t361 = 0
        · rw [if_pos c26] at H
          have c26b0 : (t361 == 0) = true := beq_iff_eq.mpr c26
          have c26b1 : (t361 != 0) = false := bne_eq_false_iff_eq.mpr c26
          clear c26
          (first | rw [c26b0] | (simp only [i64_w, i32_w]; rw [c26b0]) | skip)
          replace H := Option.bind_eq_some_iff.mp H
          obtain ⟨⟨t363, t366⟩, A270, H⟩ := H
          replace H : (if t366 = 0 then (if (strOfNums t363).toList = (strOfNums t346).toList then (cambiumlaw13_InodeForm.j1 kj4 t346 t345) else (some false)) else (some false)) = some r := H
          have A27 := Aside0.mk A270
          clear A270
          by_cases c28 : t366 = 0
          · rw [if_pos c28] at H
            have c28b0 : (t366 == 0) = true := beq_iff_eq.mpr c28
            have c28b1 : (t366 != 0) = false := bne_eq_false_iff_eq.mpr c28
            clear c28
            by_cases c29 : (strOfNums t363).toList = (strOfNums t346).toList
            · rw [if_pos c29] at H
              have c29b0 : ((strOfNums t363).toList == (strOfNums t346).toList) = true := beq_iff_eq.mpr c29
              have c29b1 : ((strOfNums t363).toList != (strOfNums t346).toList) = false := bne_eq_false_iff_eq.mpr c29
              clear c29
              have H' := Aside0.mk H
              clear H
              have hnb30 := NB362_353.out
              have hnc30 := NB353_362.out
              have hcz31_0 : w23.cell? ⟨gb362, 0, none⟩ = some (.string (⟨#[]⟩ : ByteArray)) := (blk_cell BK362.out 0).trans rfl
              have hcz31_1 : w23.cell? ⟨gb362, 1, none⟩ = some (.int .i64 0) := (blk_cell BK362.out 1).trans rfl
              have hcz31_2 : w23.cell? ⟨gb362, 2, none⟩ = some (.int .i64 0) := (blk_cell BK362.out 2).trans rfl
              have hfz31_0 := blk_frozen BK362.out 0
              have hfz31_1 := blk_frozen BK362.out 1
              have hfz31_2 := blk_frozen BK362.out 2
              go_wp2_with (first | ((with_reducible refine gate_callee (f := 12) rfl ?_); refine goesL_ (some 47) rfl rfl Try.func12 (by kernel_rfl) rfl #[.agg #[.string t358, .int .i64 t359, .int .i64 t360]] rfl (by (try simp only [List.map_toArray, List.map_cons, List.map_nil]); first | done | rfl | (simp only [List.length_drop, List.length_take]; rfl)) ?_; (with_reducible refine (inode_PutEntry.calls kj4 t358 t359 t360 t363 t366 _ A27.out).mono ?_); rintro e w32 ⟨v364, rfl, ho0, hb⟩; refine ⟨_, rfl, ?_⟩; have n0_ := Aside0.mk (Kd.V_below (by (with_reducible repeat (first | apply Kd.V_alloc | apply Kd.V_drewN | apply Kd.V_drew)); exact (Kd.V_mono (Kd.V_far (p := ⟨gb362, 2, none⟩) (Kd.V_far (p := ⟨gb362, 1, none⟩) (Kd.V_far (p := ⟨gb362, 0, none⟩) (Kd.V_mono HO_0.out (fun k_ hk => (⟨hk, hk.2⟩ : _ ∧ k_ ≠ gb362))) (fun _ hk => hk.2) (.string t358)) (fun _ hk => hk.2) (.int .i64 t359)) (fun _ hk => hk.2) (.int .i64 t360)) (fun _ h_ => h_.1))) hb); have n1_ := Aside0.mk (Kd.V_lower (Kd.V_mono (ok' := fun k_ => k_ ≠ gb353 ∧ k_ ≠ gb362) ho0 (fun k_ hk_ => ⟨(Kd.freshB (g := gb353) (o := .cells #[.int .i64 t349, .int .i64 t350, .int .i64 t351] 23 (0, 0)) (by (with_reducible repeat (first | refine blk_drewN ?_ _ | refine blk_drew ?_ | refine blk_alloc ?_ _)); refine blk_far ?_ NB353_362.out _; (with_reducible repeat (first | refine blk_drewN ?_ _ | refine blk_drew ?_ | refine blk_alloc ?_ _)); refine blk_far ?_ NB353_362.out _; (with_reducible repeat (first | refine blk_drewN ?_ _ | refine blk_drew ?_ | refine blk_alloc ?_ _)); refine blk_far ?_ NB353_362.out _; (with_reducible repeat (first | refine blk_drewN ?_ _ | refine blk_drew ?_ | refine blk_alloc ?_ _)); exact BK353.out) k_ hk_), (Kd.freshB (g := gb362) (o := .cells #[.string t358, .int .i64 t359, .int .i64 t360] 25 (0, 0)) (by (with_reducible repeat (first | refine blk_drewN ?_ _ | refine blk_drew ?_ | refine blk_alloc ?_ _)); refine blk_put (cs := #[.string t358, .int .i64 t359, .int .i64 0]) ?_ 2 _ rfl; (with_reducible repeat (first | refine blk_drewN ?_ _ | refine blk_drew ?_ | refine blk_alloc ?_ _)); refine blk_put (cs := #[.string t358, .int .i64 0, .int .i64 0]) ?_ 1 _ rfl; (with_reducible repeat (first | refine blk_drewN ?_ _ | refine blk_drew ?_ | refine blk_alloc ?_ _)); refine blk_put (cs := #[.string (⟨#[]⟩ : ByteArray), .int .i64 0, .int .i64 0]) ?_ 0 _ rfl; (with_reducible repeat (first | refine blk_drewN ?_ _ | refine blk_drew ?_ | refine blk_alloc ?_ _)); exact BK362.out) k_ hk_)⟩)) (below_size (by repeat (first | (with_reducible first | exact HB.out | apply below_alloc | apply pw_below_drewN | apply below_drew1 | refine below_set ?_ GE353.out | refine below_set ?_ GE362.out) | exact HB.out)))); have n2_ := Aside0.mk (blk_below (g := gb353) (o := .cells #[.int .i64 t349, .int .i64 t350, .int .i64 t351] 23 (0, 0)) (by (with_reducible repeat (first | refine blk_drewN ?_ _ | refine blk_drew ?_ | refine blk_alloc ?_ _)); refine blk_far ?_ NB353_362.out _; (with_reducible repeat (first | refine blk_drewN ?_ _ | refine blk_drew ?_ | refine blk_alloc ?_ _)); refine blk_far ?_ NB353_362.out _; (with_reducible repeat (first | refine blk_drewN ?_ _ | refine blk_drew ?_ | refine blk_alloc ?_ _)); refine blk_far ?_ NB353_362.out _; (with_reducible repeat (first | refine blk_drewN ?_ _ | refine blk_drew ?_ | refine blk_alloc ?_ _)); exact BK353.out) hb); have n3_ := Aside0.mk (blk_below (g := gb362) (o := .cells #[.string t358, .int .i64 t359, .int .i64 t360] 25 (0, 0)) (by (with_reducible repeat (first | refine blk_drewN ?_ _ | refine blk_drew ?_ | refine blk_alloc ?_ _)); refine blk_put (cs := #[.string t358, .int .i64 t359, .int .i64 0]) ?_ 2 _ rfl; (with_reducible repeat (first | refine blk_drewN ?_ _ | refine blk_drew ?_ | refine blk_alloc ?_ _)); refine blk_put (cs := #[.string t358, .int .i64 0, .int .i64 0]) ?_ 1 _ rfl; (with_reducible repeat (first | refine blk_drewN ?_ _ | refine blk_drew ?_ | refine blk_alloc ?_ _)); refine blk_put (cs := #[.string (⟨#[]⟩ : ByteArray), .int .i64 0, .int .i64 0]) ?_ 0 _ rfl; (with_reducible repeat (first | refine blk_drewN ?_ _ | refine blk_drew ?_ | refine blk_alloc ?_ _)); exact BK362.out) hb); have n4_ := Aside0.mk (below_step (by repeat (first | (with_reducible first | exact HB.out | apply below_alloc | apply pw_below_drewN | apply below_drew1 | refine below_set ?_ GE353.out | refine below_set ?_ GE362.out) | exact HB.out)) hb); clear HO_0; clear BK353; clear BK362; clear HB; have HO_0 := n0_; have HO365 := n1_; have BK353 := n2_; have BK362 := n3_; have HB := n4_; clear n0_ n1_ n2_ n3_ n4_; (try clear hb); (try clear hb2); (try clear hk); (try clear hi); (try clear ho0); (first | (have hcv33 := own_string (P := Try.prog) Try.underlying26 Try.underlying5 Try.underlying9 (Kd.own_of_R HO365.out); have hcv33n := fun n_ : Nat => own_string (P := Try.prog) Try.underlying26 Try.underlying5 Try.underlying9 (Kd.own_of_R (Kd.R_drewN HO365.out n_))) | (have hcv33 := fun c_ : Nat => Kd.C_string (c := c_) (P := Try.prog) Try.underlying26 Try.underlying5 Try.underlying9 (Kd.V_reads' HO365.out).2.2; have hcv33n := fun (c_ n_ : Nat) => Kd.C_string (c := c_) (P := Try.prog) Try.underlying26 Try.underlying5 Try.underlying9 (Kd.C_drewN (Kd.V_reads' HO365.out).2.2 n_)) | (have hcv33 := Own.V_string (P := Try.prog) Try.underlying26 Try.underlying5 Try.underlying9 HO365.out; have hcv33n := fun (n_ : Nat) => Own.V_string (P := Try.prog) Try.underlying26 Try.underlying5 Try.underlying9 (Kd.V_drewN HO365.out n_))); (first | (have hcv34 := own_string (P := Try.prog) Try.underlying26 Try.underlying5 Try.underlying9 (Kd.own_of_R HO_0.out); have hcv34n := fun n_ : Nat => own_string (P := Try.prog) Try.underlying26 Try.underlying5 Try.underlying9 (Kd.own_of_R (Kd.R_drewN HO_0.out n_))) | (have hcv34 := fun c_ : Nat => Kd.C_string (c := c_) (P := Try.prog) Try.underlying26 Try.underlying5 Try.underlying9 (Kd.V_reads' HO_0.out).2.2; have hcv34n := fun (c_ n_ : Nat) => Kd.C_string (c := c_) (P := Try.prog) Try.underlying26 Try.underlying5 Try.underlying9 (Kd.C_drewN (Kd.V_reads' HO_0.out).2.2 n_)) | (have hcv34 := Own.V_string (P := Try.prog) Try.underlying26 Try.underlying5 Try.underlying9 HO_0.out; have hcv34n := fun (n_ : Nat) => Own.V_string (P := Try.prog) Try.underlying26 Try.underlying5 Try.underlying9 (Kd.V_drewN HO_0.out n_)))))
              go_meet
              case rel => exact ⟨_, H', ⟨by have := HJ4.out; first | omega | exact Nat.le_refl _⟩, ⟨by (with_reducible repeat (first | apply Kd.V_alloc | apply Kd.V_drewN | apply Kd.V_drew)); exact HO_0.out⟩, ⟨by (with_reducible repeat (first | refine blk_drewN ?_ _ | refine blk_drew ?_ | refine blk_alloc ?_ _)); exact BK353.out⟩, ⟨by (with_reducible repeat (first | refine blk_drewN ?_ _ | refine blk_drew ?_ | refine blk_alloc ?_ _)); exact BK362.out⟩, ⟨by repeat (first | (with_reducible first | exact HB.out | apply below_alloc | apply pw_below_drewN | apply below_drew1 | refine below_set ?_ GE353.out | refine below_set ?_ GE362.out) | exact HB.out)⟩⟩
            · rw [if_neg c29] at H
              have c29b0 : ((strOfNums t363).toList == (strOfNums t346).toList) = false := beq_eq_false_iff_ne.mpr c29
              have c29b1 : ((strOfNums t363).toList != (strOfNums t346).toList) = true := bne_iff_ne.mpr c29
              exact absurd (Option.some.inj H) (by rw [hr_.out]; decide)
          · rw [if_neg c28] at H
            have c28b0 : (t366 == 0) = false := beq_eq_false_iff_ne.mpr c28
            have c28b1 : (t366 != 0) = true := bne_iff_ne.mpr c28
            exact absurd (Option.some.inj H) (by rw [hr_.out]; decide)
        · rw [if_neg c26] at H
          have c26b0 : (t361 == 0) = false := beq_eq_false_iff_ne.mpr c26
          have c26b1 : (t361 != 0) = true := bne_iff_ne.mpr c26
          (first | rw [c26b0] | (simp only [i64_w, i32_w]; rw [c26b0]) | skip)
          have H' := Aside0.mk H
          clear H
          go_wp2
          go_meet
          case rel => exact ⟨_, H', ⟨by have := HJ4.out; first | omega | exact Nat.le_refl _⟩, ⟨by (with_reducible repeat (first | apply Kd.V_alloc | apply Kd.V_drewN | apply Kd.V_drew)); exact Kd.V_mono (Kd.V_far (p := ⟨gb362, 2, none⟩) (Kd.V_far (p := ⟨gb362, 1, none⟩) (Kd.V_far (p := ⟨gb362, 0, none⟩) (Kd.V_mono HO_0.out (fun k_ hk => (⟨hk, hk.2⟩ : _ ∧ k_ ≠ gb362))) (fun _ hk => hk.2) (.string t358)) (fun _ hk => hk.2) (.int .i64 t359)) (fun _ hk => hk.2) (.int .i64 t360)) (fun _ hk => ⟨hk.1.1, hk.1.2⟩)⟩, ⟨by (with_reducible repeat (first | refine blk_drewN ?_ _ | refine blk_drew ?_ | refine blk_alloc ?_ _)); refine blk_far ?_ NB353_362.out _; (with_reducible repeat (first | refine blk_drewN ?_ _ | refine blk_drew ?_ | refine blk_alloc ?_ _)); refine blk_far ?_ NB353_362.out _; (with_reducible repeat (first | refine blk_drewN ?_ _ | refine blk_drew ?_ | refine blk_alloc ?_ _)); refine blk_far ?_ NB353_362.out _; (with_reducible repeat (first | refine blk_drewN ?_ _ | refine blk_drew ?_ | refine blk_alloc ?_ _)); exact BK353.out⟩, ⟨by (with_reducible repeat (first | refine blk_drewN ?_ _ | refine blk_drew ?_ | refine blk_alloc ?_ _)); refine blk_put (cs := #[.string t358, .int .i64 t359, .int .i64 0]) ?_ 2 _ rfl; (with_reducible repeat (first | refine blk_drewN ?_ _ | refine blk_drew ?_ | refine blk_alloc ?_ _)); refine blk_put (cs := #[.string t358, .int .i64 0, .int .i64 0]) ?_ 1 _ rfl; (with_reducible repeat (first | refine blk_drewN ?_ _ | refine blk_drew ?_ | refine blk_alloc ?_ _)); refine blk_put (cs := #[.string (⟨#[]⟩ : ByteArray), .int .i64 0, .int .i64 0]) ?_ 0 _ rfl; (with_reducible repeat (first | refine blk_drewN ?_ _ | refine blk_drew ?_ | refine blk_alloc ?_ _)); exact BK362.out⟩, ⟨by repeat (first | (with_reducible first | exact HB.out | apply below_alloc | apply pw_below_drewN | apply below_drew1 | refine below_set ?_ GE353.out | refine below_set ?_ GE362.out) | exact HB.out)⟩⟩
      case rest =>
        clear HC21
        try clear c1
        try clear hcv1
        try clear c2
        try clear p2
        try clear c3
        try clear hcv3
        try clear c7
        try clear c8
        try clear c9
        try clear c10
        try clear c12
        try clear c12b0
        try clear c12b1
        try clear c14
        try clear c14b0
        try clear c14b1
        try clear c15
        try clear c15b0
        try clear c15b1
        try clear hcv18
        try clear hcv19
        try clear c20
        try clear c22
        try clear c24
        try clear c26
        try clear c26b0
        try clear c26b1
        try clear c28
        try clear c28b0
        try clear c28b1
        try clear c29
        try clear c29b0
        try clear c29b1
        try clear c30
        try clear hcv33
        try clear hcv34
        try clear hcz11_0
        try clear hcz11_1
        try clear hcz11_2
        try clear hcz16_0
        try clear hcz16_1
        try clear hcz16_2
        try clear hcz25_0
        try clear hcz25_1
        try clear hcz25_2
        try clear hcz31_0
        try clear hcz31_1
        try clear hcz31_2
        try clear hfz11_0
        try clear hfz11_1
        try clear hfz11_2
        try clear hfz16_0
        try clear hfz16_1
        try clear hfz16_2
        try clear hfz25_0
        try clear hfz25_1
        try clear hfz25_2
        try clear hfz31_0
        try clear hfz31_1
        try clear hfz31_2
        try clear p2
        obtain ⟨kq, HA, HJ20, HO_0, BK353, BK362, HB⟩ := hcut
        cases kq with
        | zero => exact absurd HA.out (by simp [cambiumlaw13_InodeForm.j1])
        | succ kj20 =>
          have H := HA.out
          clear HA
          simp only [cambiumlaw13_InodeForm.j1] at H
          replace H := Option.bind_eq_some_iff.mp H
          obtain ⟨⟨t367, t370, t371⟩, A350, H⟩ := H
          replace H : (if t371 = 0 then ((inode_PutExtent.f kj20 t367 t370).bind fun bt373 => (if bt373.2 = 0 then (if (strOfNums bt373.1).toList = (strOfNums t346).toList then (some t345) else (some false)) else (some false))) else (some t345)) = some r := H
          have A35 := Aside0.mk A350
          clear A350
          by_cases c36 : t371 = 0
          · rw [if_pos c36] at H
            have c36b0 : (t371 == 0) = true := beq_iff_eq.mpr c36
            have c36b1 : (t371 != 0) = false := bne_eq_false_iff_eq.mpr c36
            clear c36
            replace H := Option.bind_eq_some_iff.mp H
            obtain ⟨⟨t373, t376⟩, A370, H⟩ := H
            replace H : (if t376 = 0 then (if (strOfNums t373).toList = (strOfNums t346).toList then (some t345) else (some false)) else (some false)) = some r := H
            have A37 := Aside0.mk A370
            clear A370
            by_cases c38 : t376 = 0
            · rw [if_pos c38] at H
              have c38b0 : (t376 == 0) = true := beq_iff_eq.mpr c38
              have c38b1 : (t376 != 0) = false := bne_eq_false_iff_eq.mpr c38
              clear c38
              by_cases c39 : (strOfNums t373).toList = (strOfNums t346).toList
              · rw [if_pos c39] at H
                have c39b0 : ((strOfNums t373).toList == (strOfNums t346).toList) = true := beq_iff_eq.mpr c39
                have c39b1 : ((strOfNums t373).toList != (strOfNums t346).toList) = false := bne_eq_false_iff_eq.mpr c39
                clear c39
                obtain rfl := Option.some.inj H
                go_wp2_with (first | ((with_reducible refine gate_callee (f := 24) rfl ?_); refine goesL_ (some 61) rfl rfl Try.func24 (by kernel_rfl) rfl #[.slice Ao8 t346.length co8] rfl (by (try simp only [List.map_toArray, List.map_cons, List.map_nil]); first | done | rfl | (simp only [List.length_drop, List.length_take]; rfl)) ?_; (with_reducible refine (inode_TakeExtent.calls kj20 _ _ t346 t367 t370 t371 _ ?side1 ?side2 A35.out).mono ?_); (case side1 => repeat (first | exact (Kd.V_reads' HO_0.out).2.2 | (with_reducible refine Kd.C_alloc ?_ _) | (with_reducible refine Kd.C_drewN ?_ _) | (with_reducible refine Kd.C_drew ?_))); (case side2 => exact (Kd.V_reads' HO_0.out).2.1); rintro e w40 ⟨v368, rfl, ho0, hb⟩; refine ⟨_, rfl, ?_⟩; have n0_ := Aside0.mk (Kd.V_elder' (by (with_reducible repeat (first | apply Kd.V_alloc | apply Kd.V_drewN | apply Kd.V_drew)); exact HO_0.out) (Kd.R_base ho0) hb); have n1_ := Aside0.mk (Kd.R_lower ho0 (below_size (by repeat (first | (with_reducible first | exact HB.out | apply below_alloc | apply pw_below_drewN | apply below_drew1 | refine below_set ?_ GE353.out | refine below_set ?_ GE362.out) | exact HB.out)))); have n2_ := Aside0.mk (blk_below (g := gb353) (o := .cells #[.int .i64 t349, .int .i64 t350, .int .i64 t351] 23 (0, 0)) (by (with_reducible repeat (first | refine blk_drewN ?_ _ | refine blk_drew ?_ | refine blk_alloc ?_ _)); exact BK353.out) hb); have n3_ := Aside0.mk (blk_below (g := gb362) (o := .cells #[.string t358, .int .i64 t359, .int .i64 t360] 25 (0, 0)) (by (with_reducible repeat (first | refine blk_drewN ?_ _ | refine blk_drew ?_ | refine blk_alloc ?_ _)); exact BK362.out) hb); have n4_ := Aside0.mk (below_step (by repeat (first | (with_reducible first | exact HB.out | apply below_alloc | apply pw_below_drewN | apply below_drew1 | refine below_set ?_ GE353.out | refine below_set ?_ GE362.out) | exact HB.out)) hb); clear HO_0; clear BK353; clear BK362; clear HB; have HO_0 := n0_; have HO369 := n1_; have BK353 := n2_; have BK362 := n3_; have HB := n4_; clear n0_ n1_ n2_ n3_ n4_; (try clear hb); (try clear hb2); (try clear hk); (try clear hi); (try clear ho0)) | ((with_reducible refine gate_dst (N := 11) rfl ?_); refine box_event ?hg (N := 11) ?hd (cs := #[.slice none 0 0, .int .i64 0]) (t := 28) ?hr ?_; (case hd => rfl); (case hg => rfl); (case hr => first | (go_simp; done) | (go_simp; rfl)); intro gb372 hg w41 hbox hb; have n0_ := Aside0.mk (Kd.V_below (Kd.V_elderB (by (with_reducible repeat (first | apply Kd.V_alloc | apply Kd.V_drewN | apply Kd.V_drew)); exact HO_0.out) gb372 (Nat.le_of_eq hg.symm)) hb); have n1_ := Aside0.mk (Kd.R_below (by (with_reducible repeat (first | apply Kd.R_alloc | apply Kd.R_drewN | apply Kd.R_drew)); exact HO369.out) hb); have n2_ := Aside0.mk (blk_below (g := gb353) (o := .cells #[.int .i64 t349, .int .i64 t350, .int .i64 t351] 23 (0, 0)) (by (with_reducible repeat (first | refine blk_drewN ?_ _ | refine blk_drew ?_ | refine blk_alloc ?_ _)); exact BK353.out) hb); have n3_ := Aside0.mk (blk_below (g := gb362) (o := .cells #[.string t358, .int .i64 t359, .int .i64 t360] 25 (0, 0)) (by (with_reducible repeat (first | refine blk_drewN ?_ _ | refine blk_drew ?_ | refine blk_alloc ?_ _)); exact BK362.out) hb); have n4_ := Aside0.mk (below_step (by repeat (first | (with_reducible first | exact HB.out | apply below_alloc | apply pw_below_drewN | apply below_drew1 | refine below_set ?_ GE353.out | refine below_set ?_ GE362.out) | exact HB.out)) hb); have n5_ := Aside0.mk (hbox); have n6_ := Aside0.mk ((by rw [hg]; exact (below_size (by repeat (first | (with_reducible first | exact HB.out | apply below_alloc | apply pw_below_drewN | apply below_drew1 | refine below_set ?_ GE353.out | refine below_set ?_ GE362.out) | exact HB.out))) : w.heap.size ≤ gb372)); have n7_ := Aside0.mk ((by rw [hg]; exact (below_size (by repeat (first | (with_reducible first | exact HB.out | apply below_alloc | apply pw_below_drewN | apply below_drew1 | refine below_set ?_ GE353.out | refine below_set ?_ GE362.out) | exact HB.out))) : w.heap.size ≤ gb372)); have n8_ := Aside0.mk ((by rw [hg]; exact Nat.ne_of_lt (blk_lt (g := gb353) (o := .cells #[.int .i64 t349, .int .i64 t350, .int .i64 t351] 23 (0, 0)) (by (with_reducible repeat (first | refine blk_drewN ?_ _ | refine blk_drew ?_ | refine blk_alloc ?_ _)); exact BK353.out)) : gb353 ≠ gb372)); have n9_ := Aside0.mk ((by rw [hg]; exact Nat.ne_of_gt (blk_lt (g := gb353) (o := .cells #[.int .i64 t349, .int .i64 t350, .int .i64 t351] 23 (0, 0)) (by (with_reducible repeat (first | refine blk_drewN ?_ _ | refine blk_drew ?_ | refine blk_alloc ?_ _)); exact BK353.out)) : gb372 ≠ gb353)); have n10_ := Aside0.mk ((by rw [hg]; exact Nat.ne_of_lt (blk_lt (g := gb362) (o := .cells #[.string t358, .int .i64 t359, .int .i64 t360] 25 (0, 0)) (by (with_reducible repeat (first | refine blk_drewN ?_ _ | refine blk_drew ?_ | refine blk_alloc ?_ _)); exact BK362.out)) : gb362 ≠ gb372)); have n11_ := Aside0.mk ((by rw [hg]; exact Nat.ne_of_gt (blk_lt (g := gb362) (o := .cells #[.string t358, .int .i64 t359, .int .i64 t360] 25 (0, 0)) (by (with_reducible repeat (first | refine blk_drewN ?_ _ | refine blk_drew ?_ | refine blk_alloc ?_ _)); exact BK362.out)) : gb372 ≠ gb362)); clear HO_0; clear HO369; clear BK353; clear BK362; clear HB; have HO_0 := n0_; have HO369 := n1_; have BK353 := n2_; have BK362 := n3_; have HB := n4_; have BK372 := n5_; have GW372 := n6_; have GE372 := n7_; have NB353_372 := n8_; have NB372_353 := n9_; have NB362_372 := n10_; have NB372_362 := n11_; clear n0_ n1_ n2_ n3_ n4_ n5_ n6_ n7_ n8_ n9_ n10_ n11_; clear hb hbox hg; obtain ⟨Ao42, co42, eo42⟩ := Kd.R_slice HO369.out; subst eo42; have hnb43 := NB372_353.out; have hnc43 := NB353_372.out; have hnb44 := NB372_362.out; have hnc44 := NB362_372.out; have hcz45_0 : w41.cell? ⟨gb372, 0, none⟩ = some (.slice none 0 0) := (blk_cell BK372.out 0).trans rfl; have hcz45_1 : w41.cell? ⟨gb372, 1, none⟩ = some (.int .i64 0) := (blk_cell BK372.out 1).trans rfl; have hfz45_0 := blk_frozen BK372.out 0; have hfz45_1 := blk_frozen BK372.out 1) | ((with_reducible refine gate_callee (f := 14) rfl ?_); refine goesL_ (some 68) rfl rfl Try.func14 (by kernel_rfl) rfl #[.agg #[.slice Ao42 t367.length co42, .int .i64 t370]] rfl (by (try simp only [List.map_toArray, List.map_cons, List.map_nil]); first | done | rfl | (simp only [List.length_drop, List.length_take]; rfl)) ?_; (with_reducible refine (inode_PutExtent.calls kj20 _ _ t367 t370 t373 t376 _ ?side1 ?side2 A37.out).mono ?_); (case side1 => refine (Kd.R_reads' (e := 5) (base := w.heap.size) (ok := fun k_ => True) (n := t367.length) (c := co42) ?_).2.2; exact (by (with_reducible repeat (first | apply Kd.R_alloc | apply Kd.R_drewN | apply Kd.R_drew)); exact (Kd.R_mono (Kd.R_far (p := ⟨gb372, 1, none⟩) (Kd.R_far (p := ⟨gb372, 0, none⟩) (Kd.R_types HO369.out BK372.out (by decide)) (fun _ hk => hk.2) (.slice Ao42 t367.length co42)) (fun _ hk => hk.2) (.int .i64 t370)) (fun _ h_ => h_.1)))); (case side2 => exact (Kd.R_reads' HO369.out).2.1); rintro e w46 ⟨v374, rfl, ho0, hb⟩; refine ⟨_, rfl, ?_⟩; have n0_ := Aside0.mk (Kd.V_below (by (with_reducible repeat (first | apply Kd.V_alloc | apply Kd.V_drewN | apply Kd.V_drew)); exact (Kd.V_mono (Kd.V_far (p := ⟨gb372, 1, none⟩) (Kd.V_far (p := ⟨gb372, 0, none⟩) (Kd.V_mono HO_0.out (fun k_ hk => (⟨hk, hk.2⟩ : _ ∧ k_ ≠ gb372))) (fun _ hk => hk.2) (.slice Ao42 t367.length co42)) (fun _ hk => hk.2) (.int .i64 t370)) (fun _ h_ => h_.1))) hb); have n1_ := Aside0.mk (Kd.R_below (by (with_reducible repeat (first | apply Kd.R_alloc | apply Kd.R_drewN | apply Kd.R_drew)); exact (Kd.R_mono (Kd.R_far (p := ⟨gb372, 1, none⟩) (Kd.R_far (p := ⟨gb372, 0, none⟩) (Kd.R_types HO369.out BK372.out (by decide)) (fun _ hk => hk.2) (.slice Ao42 t367.length co42)) (fun _ hk => hk.2) (.int .i64 t370)) (fun _ h_ => h_.1))) hb); have n2_ := Aside0.mk (Kd.V_lower (Kd.V_mono (ok' := fun k_ => some k_ ≠ (.slice Ao42 t367.length co42 : Value).ownBlock ∧ k_ ≠ gb353 ∧ k_ ≠ gb362 ∧ k_ ≠ gb372) ho0 (fun k_ hk_ => ⟨(Kd.fresh' (Kd.R_lt (by (with_reducible repeat (first | apply Kd.R_alloc | apply Kd.R_drewN | apply Kd.R_drew)); exact (Kd.R_mono (Kd.R_far (p := ⟨gb372, 1, none⟩) (Kd.R_far (p := ⟨gb372, 0, none⟩) (Kd.R_types HO369.out BK372.out (by decide)) (fun _ hk => hk.2) (.slice Ao42 t367.length co42)) (fun _ hk => hk.2) (.int .i64 t370)) (fun _ h_ => h_.1)))) k_ hk_), (Kd.freshB (g := gb353) (o := .cells #[.int .i64 t349, .int .i64 t350, .int .i64 t351] 23 (0, 0)) (by (with_reducible repeat (first | refine blk_drewN ?_ _ | refine blk_drew ?_ | refine blk_alloc ?_ _)); refine blk_far ?_ NB353_372.out _; (with_reducible repeat (first | refine blk_drewN ?_ _ | refine blk_drew ?_ | refine blk_alloc ?_ _)); refine blk_far ?_ NB353_372.out _; (with_reducible repeat (first | refine blk_drewN ?_ _ | refine blk_drew ?_ | refine blk_alloc ?_ _)); exact BK353.out) k_ hk_), (Kd.freshB (g := gb362) (o := .cells #[.string t358, .int .i64 t359, .int .i64 t360] 25 (0, 0)) (by (with_reducible repeat (first | refine blk_drewN ?_ _ | refine blk_drew ?_ | refine blk_alloc ?_ _)); refine blk_far ?_ NB362_372.out _; (with_reducible repeat (first | refine blk_drewN ?_ _ | refine blk_drew ?_ | refine blk_alloc ?_ _)); refine blk_far ?_ NB362_372.out _; (with_reducible repeat (first | refine blk_drewN ?_ _ | refine blk_drew ?_ | refine blk_alloc ?_ _)); exact BK362.out) k_ hk_), (Kd.freshB (g := gb372) (o := .cells #[.slice Ao42 t367.length co42, .int .i64 t370] 28 (0, 0)) (by (with_reducible repeat (first | refine blk_drewN ?_ _ | refine blk_drew ?_ | refine blk_alloc ?_ _)); refine blk_put (cs := #[.slice Ao42 t367.length co42, .int .i64 0]) ?_ 1 _ rfl; (with_reducible repeat (first | refine blk_drewN ?_ _ | refine blk_drew ?_ | refine blk_alloc ?_ _)); refine blk_put (cs := #[.slice none 0 0, .int .i64 0]) ?_ 0 _ rfl; (with_reducible repeat (first | refine blk_drewN ?_ _ | refine blk_drew ?_ | refine blk_alloc ?_ _)); exact BK372.out) k_ hk_)⟩)) (below_size (by repeat (first | (with_reducible first | exact HB.out | apply below_alloc | apply pw_below_drewN | apply below_drew1 | refine below_set ?_ GE353.out | refine below_set ?_ GE362.out | refine below_set ?_ GE372.out) | exact HB.out)))); have n3_ := Aside0.mk (blk_below (g := gb353) (o := .cells #[.int .i64 t349, .int .i64 t350, .int .i64 t351] 23 (0, 0)) (by (with_reducible repeat (first | refine blk_drewN ?_ _ | refine blk_drew ?_ | refine blk_alloc ?_ _)); refine blk_far ?_ NB353_372.out _; (with_reducible repeat (first | refine blk_drewN ?_ _ | refine blk_drew ?_ | refine blk_alloc ?_ _)); refine blk_far ?_ NB353_372.out _; (with_reducible repeat (first | refine blk_drewN ?_ _ | refine blk_drew ?_ | refine blk_alloc ?_ _)); exact BK353.out) hb); have n4_ := Aside0.mk (blk_below (g := gb362) (o := .cells #[.string t358, .int .i64 t359, .int .i64 t360] 25 (0, 0)) (by (with_reducible repeat (first | refine blk_drewN ?_ _ | refine blk_drew ?_ | refine blk_alloc ?_ _)); refine blk_far ?_ NB362_372.out _; (with_reducible repeat (first | refine blk_drewN ?_ _ | refine blk_drew ?_ | refine blk_alloc ?_ _)); refine blk_far ?_ NB362_372.out _; (with_reducible repeat (first | refine blk_drewN ?_ _ | refine blk_drew ?_ | refine blk_alloc ?_ _)); exact BK362.out) hb); have n5_ := Aside0.mk (blk_below (g := gb372) (o := .cells #[.slice Ao42 t367.length co42, .int .i64 t370] 28 (0, 0)) (by (with_reducible repeat (first | refine blk_drewN ?_ _ | refine blk_drew ?_ | refine blk_alloc ?_ _)); refine blk_put (cs := #[.slice Ao42 t367.length co42, .int .i64 0]) ?_ 1 _ rfl; (with_reducible repeat (first | refine blk_drewN ?_ _ | refine blk_drew ?_ | refine blk_alloc ?_ _)); refine blk_put (cs := #[.slice none 0 0, .int .i64 0]) ?_ 0 _ rfl; (with_reducible repeat (first | refine blk_drewN ?_ _ | refine blk_drew ?_ | refine blk_alloc ?_ _)); exact BK372.out) hb); have n6_ := Aside0.mk (below_step (by repeat (first | (with_reducible first | exact HB.out | apply below_alloc | apply pw_below_drewN | apply below_drew1 | refine below_set ?_ GE353.out | refine below_set ?_ GE362.out | refine below_set ?_ GE372.out) | exact HB.out)) hb); clear HO_0; clear HO369; clear BK353; clear BK362; clear BK372; clear HB; have HO_0 := n0_; have HO369 := n1_; have HO375 := n2_; have BK353 := n3_; have BK362 := n4_; have BK372 := n5_; have HB := n6_; clear n0_ n1_ n2_ n3_ n4_ n5_ n6_; (try clear hb); (try clear hb2); (try clear hk); (try clear hi); (try clear ho0); (first | (have hcv47 := own_string (P := Try.prog) Try.underlying26 Try.underlying5 Try.underlying9 (Kd.own_of_R HO375.out); have hcv47n := fun n_ : Nat => own_string (P := Try.prog) Try.underlying26 Try.underlying5 Try.underlying9 (Kd.own_of_R (Kd.R_drewN HO375.out n_))) | (have hcv47 := fun c_ : Nat => Kd.C_string (c := c_) (P := Try.prog) Try.underlying26 Try.underlying5 Try.underlying9 (Kd.V_reads' HO375.out).2.2; have hcv47n := fun (c_ n_ : Nat) => Kd.C_string (c := c_) (P := Try.prog) Try.underlying26 Try.underlying5 Try.underlying9 (Kd.C_drewN (Kd.V_reads' HO375.out).2.2 n_)) | (have hcv47 := Own.V_string (P := Try.prog) Try.underlying26 Try.underlying5 Try.underlying9 HO375.out; have hcv47n := fun (n_ : Nat) => Own.V_string (P := Try.prog) Try.underlying26 Try.underlying5 Try.underlying9 (Kd.V_drewN HO375.out n_))); (first | (have hcv48 := own_string (P := Try.prog) Try.underlying26 Try.underlying5 Try.underlying9 (Kd.own_of_R HO_0.out); have hcv48n := fun n_ : Nat => own_string (P := Try.prog) Try.underlying26 Try.underlying5 Try.underlying9 (Kd.own_of_R (Kd.R_drewN HO_0.out n_))) | (have hcv48 := fun c_ : Nat => Kd.C_string (c := c_) (P := Try.prog) Try.underlying26 Try.underlying5 Try.underlying9 (Kd.V_reads' HO_0.out).2.2; have hcv48n := fun (c_ n_ : Nat) => Kd.C_string (c := c_) (P := Try.prog) Try.underlying26 Try.underlying5 Try.underlying9 (Kd.C_drewN (Kd.V_reads' HO_0.out).2.2 n_)) | (have hcv48 := Own.V_string (P := Try.prog) Try.underlying26 Try.underlying5 Try.underlying9 HO_0.out; have hcv48n := fun (n_ : Nat) => Own.V_string (P := Try.prog) Try.underlying26 Try.underlying5 Try.underlying9 (Kd.V_drewN HO_0.out n_)))))
                go_ret
                exact ⟨by first | rfl | (simp [errW_none, errW_some] <;> rfl) | (simp [*, errW_none, errW_some] <;> rfl), by repeat (first | (with_reducible first | exact HB.out | apply below_alloc | apply pw_below_drewN | apply below_drew1 | refine below_set ?_ GE353.out | refine below_set ?_ GE362.out | refine below_set ?_ GE372.out) | exact HB.out)⟩
              · rw [if_neg c39] at H
                have c39b0 : ((strOfNums t373).toList == (strOfNums t346).toList) = false := beq_eq_false_iff_ne.mpr c39
                have c39b1 : ((strOfNums t373).toList != (strOfNums t346).toList) = true := bne_iff_ne.mpr c39
                exact absurd (Option.some.inj H) (by rw [hr_.out]; decide)
            · rw [if_neg c38] at H
              have c38b0 : (t376 == 0) = false := beq_eq_false_iff_ne.mpr c38
              have c38b1 : (t376 != 0) = true := bne_iff_ne.mpr c38
              exact absurd (Option.some.inj H) (by rw [hr_.out]; decide)
          · rw [if_neg c36] at H
            have c36b0 : (t371 == 0) = false := beq_eq_false_iff_ne.mpr c36
            have c36b1 : (t371 != 0) = true := bne_iff_ne.mpr c36
            obtain rfl := Option.some.inj H
            go_wp2_with (first | ((with_reducible refine gate_callee (f := 24) rfl ?_); refine goesL_ (some 61) rfl rfl Try.func24 (by kernel_rfl) rfl #[.slice Ao8 t346.length co8] rfl (by (try simp only [List.map_toArray, List.map_cons, List.map_nil]); first | done | rfl | (simp only [List.length_drop, List.length_take]; rfl)) ?_; (with_reducible refine (inode_TakeExtent.calls kj20 _ _ t346 t367 t370 t371 _ ?side1 ?side2 A35.out).mono ?_); (case side1 => repeat (first | exact (Kd.V_reads' HO_0.out).2.2 | (with_reducible refine Kd.C_alloc ?_ _) | (with_reducible refine Kd.C_drewN ?_ _) | (with_reducible refine Kd.C_drew ?_))); (case side2 => exact (Kd.V_reads' HO_0.out).2.1); rintro e w49 ⟨v368, rfl, ho0, hb⟩; refine ⟨_, rfl, ?_⟩; have n0_ := Aside0.mk (Kd.V_elder' (by (with_reducible repeat (first | apply Kd.V_alloc | apply Kd.V_drewN | apply Kd.V_drew)); exact HO_0.out) (Kd.R_base ho0) hb); have n1_ := Aside0.mk (Kd.R_lower ho0 (below_size (by repeat (first | (with_reducible first | exact HB.out | apply below_alloc | apply pw_below_drewN | apply below_drew1 | refine below_set ?_ GE353.out | refine below_set ?_ GE362.out) | exact HB.out)))); have n2_ := Aside0.mk (blk_below (g := gb353) (o := .cells #[.int .i64 t349, .int .i64 t350, .int .i64 t351] 23 (0, 0)) (by (with_reducible repeat (first | refine blk_drewN ?_ _ | refine blk_drew ?_ | refine blk_alloc ?_ _)); exact BK353.out) hb); have n3_ := Aside0.mk (blk_below (g := gb362) (o := .cells #[.string t358, .int .i64 t359, .int .i64 t360] 25 (0, 0)) (by (with_reducible repeat (first | refine blk_drewN ?_ _ | refine blk_drew ?_ | refine blk_alloc ?_ _)); exact BK362.out) hb); have n4_ := Aside0.mk (below_step (by repeat (first | (with_reducible first | exact HB.out | apply below_alloc | apply pw_below_drewN | apply below_drew1 | refine below_set ?_ GE353.out | refine below_set ?_ GE362.out) | exact HB.out)) hb); clear HO_0; clear BK353; clear BK362; clear HB; have HO_0 := n0_; have HO369 := n1_; have BK353 := n2_; have BK362 := n3_; have HB := n4_; clear n0_ n1_ n2_ n3_ n4_; (try clear hb); (try clear hb2); (try clear hk); (try clear hi); (try clear ho0)) | ((with_reducible refine gate_dst (N := 11) rfl ?_); refine box_event ?hg (N := 11) ?hd (cs := #[.slice none 0 0, .int .i64 0]) (t := 28) ?hr ?_; (case hd => rfl); (case hg => rfl); (case hr => first | (go_simp; done) | (go_simp; rfl)); intro gb372 hg w50 hbox hb; have n0_ := Aside0.mk (Kd.V_below (Kd.V_elderB (by (with_reducible repeat (first | apply Kd.V_alloc | apply Kd.V_drewN | apply Kd.V_drew)); exact HO_0.out) gb372 (Nat.le_of_eq hg.symm)) hb); have n1_ := Aside0.mk (Kd.R_below (by (with_reducible repeat (first | apply Kd.R_alloc | apply Kd.R_drewN | apply Kd.R_drew)); exact HO369.out) hb); have n2_ := Aside0.mk (blk_below (g := gb353) (o := .cells #[.int .i64 t349, .int .i64 t350, .int .i64 t351] 23 (0, 0)) (by (with_reducible repeat (first | refine blk_drewN ?_ _ | refine blk_drew ?_ | refine blk_alloc ?_ _)); exact BK353.out) hb); have n3_ := Aside0.mk (blk_below (g := gb362) (o := .cells #[.string t358, .int .i64 t359, .int .i64 t360] 25 (0, 0)) (by (with_reducible repeat (first | refine blk_drewN ?_ _ | refine blk_drew ?_ | refine blk_alloc ?_ _)); exact BK362.out) hb); have n4_ := Aside0.mk (below_step (by repeat (first | (with_reducible first | exact HB.out | apply below_alloc | apply pw_below_drewN | apply below_drew1 | refine below_set ?_ GE353.out | refine below_set ?_ GE362.out) | exact HB.out)) hb); have n5_ := Aside0.mk (hbox); have n6_ := Aside0.mk ((by rw [hg]; exact (below_size (by repeat (first | (with_reducible first | exact HB.out | apply below_alloc | apply pw_below_drewN | apply below_drew1 | refine below_set ?_ GE353.out | refine below_set ?_ GE362.out) | exact HB.out))) : w.heap.size ≤ gb372)); have n7_ := Aside0.mk ((by rw [hg]; exact (below_size (by repeat (first | (with_reducible first | exact HB.out | apply below_alloc | apply pw_below_drewN | apply below_drew1 | refine below_set ?_ GE353.out | refine below_set ?_ GE362.out) | exact HB.out))) : w.heap.size ≤ gb372)); have n8_ := Aside0.mk ((by rw [hg]; exact Nat.ne_of_lt (blk_lt (g := gb353) (o := .cells #[.int .i64 t349, .int .i64 t350, .int .i64 t351] 23 (0, 0)) (by (with_reducible repeat (first | refine blk_drewN ?_ _ | refine blk_drew ?_ | refine blk_alloc ?_ _)); exact BK353.out)) : gb353 ≠ gb372)); have n9_ := Aside0.mk ((by rw [hg]; exact Nat.ne_of_gt (blk_lt (g := gb353) (o := .cells #[.int .i64 t349, .int .i64 t350, .int .i64 t351] 23 (0, 0)) (by (with_reducible repeat (first | refine blk_drewN ?_ _ | refine blk_drew ?_ | refine blk_alloc ?_ _)); exact BK353.out)) : gb372 ≠ gb353)); have n10_ := Aside0.mk ((by rw [hg]; exact Nat.ne_of_lt (blk_lt (g := gb362) (o := .cells #[.string t358, .int .i64 t359, .int .i64 t360] 25 (0, 0)) (by (with_reducible repeat (first | refine blk_drewN ?_ _ | refine blk_drew ?_ | refine blk_alloc ?_ _)); exact BK362.out)) : gb362 ≠ gb372)); have n11_ := Aside0.mk ((by rw [hg]; exact Nat.ne_of_gt (blk_lt (g := gb362) (o := .cells #[.string t358, .int .i64 t359, .int .i64 t360] 25 (0, 0)) (by (with_reducible repeat (first | refine blk_drewN ?_ _ | refine blk_drew ?_ | refine blk_alloc ?_ _)); exact BK362.out)) : gb372 ≠ gb362)); clear HO_0; clear HO369; clear BK353; clear BK362; clear HB; have HO_0 := n0_; have HO369 := n1_; have BK353 := n2_; have BK362 := n3_; have HB := n4_; have BK372 := n5_; have GW372 := n6_; have GE372 := n7_; have NB353_372 := n8_; have NB372_353 := n9_; have NB362_372 := n10_; have NB372_362 := n11_; clear n0_ n1_ n2_ n3_ n4_ n5_ n6_ n7_ n8_ n9_ n10_ n11_; clear hb hbox hg; obtain ⟨Ao51, co51, eo51⟩ := Kd.R_slice HO369.out; subst eo51; have hnb52 := NB372_353.out; have hnc52 := NB353_372.out; have hnb53 := NB372_362.out; have hnc53 := NB362_372.out; have hcz54_0 : w50.cell? ⟨gb372, 0, none⟩ = some (.slice none 0 0) := (blk_cell BK372.out 0).trans rfl; have hcz54_1 : w50.cell? ⟨gb372, 1, none⟩ = some (.int .i64 0) := (blk_cell BK372.out 1).trans rfl; have hfz54_0 := blk_frozen BK372.out 0; have hfz54_1 := blk_frozen BK372.out 1))
            go_ret
            exact ⟨by first | rfl | (simp [errW_none, errW_some] <;> rfl) | (simp [*, errW_none, errW_some] <;> rfl), by repeat (first | (with_reducible first | exact HB.out | apply below_alloc | apply pw_below_drewN | apply below_drew1 | refine below_set ?_ GE353.out | refine below_set ?_ GE362.out | refine below_set ?_ GE372.out) | exact HB.out)⟩

/-- THE ONE PURE STATEMENT of cambiumlaw13_InodeForm: yours. -/
def cambiumlaw13_InodeForm.Pure : Prop := ∀ (l0 : List Int), l0.length ≤ maxLen → l0.length * 1 ≤ 140737488351232 → (∀ x ∈ l0, (Lit.int .u8 x).wf = true) → ∃ k, cambiumlaw13_InodeForm.f k l0 = some true
theorem cambiumlaw13_InodeForm.walk (P : cambiumlaw13_InodeForm.Pure) (a0 : Option Addr) (len0 cap0 : Nat) (z0 : List Int) (w : World) (w0 : (a0 = none ∧ len0 = 0 ∧ cap0 = 0 ∧ z0 = []) ∨ ∃ x, a0 = some x ∧ len0 ≤ cap0 ∧ cap0 ≤ maxLen ∧ z0.length = cap0 ∧ (∀ i, i < z0.length → w.cell? (x.add i) = some (.int .u8 (z0.getD i 0))) ∧ ∀ n ∈ z0, (Lit.int .u8 n).wf = true) (y0 : len0 * 1 ≤ 140737488351232) :
    Calls Try.prog 7 #[.slice a0 len0 cap0] w fun e w' => e = .returned (.bool true) ∧ Below w.heap.size w w' := by
  obtain ⟨l0, rfl, hr0, hm0, hw0, hc0⟩ := ReadsInt.ofRowC w0
  obtain ⟨k, h⟩ := P l0 hm0 y0 hw0
  refine (cambiumlaw13_InodeForm.calls k _ _ l0 true w (Kd.C_of_reads (d := (0 : Int)) (h1 := fun _ => rfl) hr0) hc0 ⟨rfl⟩ h).mono ?_
  rintro e w' ⟨rfl, hd⟩
  exact ⟨rfl, hd⟩

end Go.Proofs.Ytpahlfjfadammaa.P
