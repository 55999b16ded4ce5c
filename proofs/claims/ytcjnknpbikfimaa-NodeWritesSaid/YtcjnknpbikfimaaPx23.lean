/- Functions and contracts, written by a program (mkprint.py, a wrapper of ours around the print); texts between GIVEN marks are ours. -/
import Derived.Test.YtcjnknpbikfimaaPx0
import Derived.Test.YtcjnknpbikfimaaPx8
import Derived.Test.YtcjnknpbikfimaaPx11
import Derived.Test.YtcjnknpbikfimaaPx13
import Derived.Test.YtcjnknpbikfimaaPx22
namespace Go.Proofs.Ytcjnknpbikfimaa.P
open Go.RowKit Go.Proofs.YtcjnknpbikfimaaW.PrintWords Go.Proofs.YtcjnknpbikfimaaW.PrintLast Go.Proofs.YtcjnknpbikfimaaW.PrintMore
attribute [local go_sem] max2_int min2_int max_two min_two max_three min_three max_four min_four   -- for this text's walks alone
set_option linter.unusedVariables false
set_option linter.unusedSimpArgs false

/-! ### cambiumlaw06_NodeWrites: function 4 -/
def cambiumlaw06_NodeWrites.f (k : Nat) (a0_0 : Int) (l0_1 : List (S52)) (l0_2 : List (S57)) (a1 : Int) (a2 : Int) : Option (Bool) := (cambiumlaw06_shown.f).bind fun t323 => ((cambiumlaw06_few.f a0_0 l0_1 l0_2).bind fun bt324 => ((node_Write.f k bt324.1 bt324.2.1 bt324.2.2 a1 a2).bind fun bt331 => ((cambiumref06_Write.f k bt324.1 bt324.2.1 bt324.2.2 a1 a2).bind fun bt335 => (if t323 = true then (if (strOfNums bt331.1).toList = (strOfNums bt335.1).toList then (some (bt331.2 == bt335.2)) else (some false)) else (some false)))))
theorem cambiumlaw06_NodeWrites.mono : ∀ a0 a1 a2 a3 a4 k, LeO (cambiumlaw06_NodeWrites.f k a0 a1 a2 a3 a4) (cambiumlaw06_NodeWrites.f (k + 1) a0 a1 a2 a3 a4) := by
 intro a0 a1 a2 a3 a4 k
 unfold cambiumlaw06_NodeWrites.f
 repeat' first
   | (with_reducible exact cambiumref06_Write.mono _ _ _ _ _ _)
   | (with_reducible exact node_Write.mono _ _ _ _ _ _)
   | (with_reducible exact LeO.refl _)
   | (with_reducible exact LeO.none _)
   | (with_reducible refine LeO.ite ?_ ?_)
   | (with_reducible refine LeO.bind ?_ (fun _ => ?_))
   | exact cambiumref06_Write.mono _ _ _ _ _ _
   | exact node_Write.mono _ _ _ _ _ _
   | exact LeO.none _
   | refine LeO.ite ?_ ?_
   | refine LeO.bind ?_ (fun _ => ?_)
set_option maxHeartbeats 8000000 in
set_option maxRecDepth 100000 in
theorem cambiumlaw06_NodeWrites.calls (k : Nat) (a0_0 : Int) (A0_1 : Option Addr) (c0_1 : Nat) (l0_1 : List (S52)) (A0_2 : Option Addr) (c0_2 : Nat) (l0_2 : List (S57)) (a1 : Int) (a2 : Int) (r : Bool) (w : World) (hr0_1 : Kd.C k52 w A0_1 l0_1.length l0_1) (hc0_1 : l0_1.length ≤ c0_1) (hr0_2 : Kd.C k57 w A0_2 l0_2.length l0_2) (hc0_2 : l0_2.length ≤ c0_2) (hr_ : Aside0 (r = true)) (h : cambiumlaw06_NodeWrites.f k a0_0 l0_1 l0_2 a1 a2 = some r) :
  Calls Try.prog 4 #[.agg #[.int .i64 a0_0, .slice A0_1 l0_1.length c0_1, .slice A0_2 l0_2.length c0_2], .int .i64 a1, .int .i64 a2] w fun e w' => e = .returned (.bool r) ∧ Below w.heap.size w w' := by
 have hu25 := Try.underlying25
 have HR0_1 := Aside0.mk hr0_1
 have HC0_1 := Aside0.mk hc0_1
 clear hr0_1 hc0_1
 have HR0_2 := Aside0.mk hr0_2
 have HC0_2 := Aside0.mk hc0_2
 clear hr0_2 hc0_2
 have HB := Aside0.mk (Below.refl w.heap.size w)
 have H : ((cambiumlaw06_shown.f).bind fun t323 => ((cambiumlaw06_few.f a0_0 l0_1 l0_2).bind fun bt324 => ((node_Write.f k bt324.1 bt324.2.1 bt324.2.2 a1 a2).bind fun bt331 => ((cambiumref06_Write.f k bt324.1 bt324.2.1 bt324.2.2 a1 a2).bind fun bt335 => (if t323 = true then (if (strOfNums bt331.1).toList = (strOfNums bt335.1).toList then (some (bt331.2 == bt335.2)) else (some false)) else (some false)))))) = some r := h
 clear h
 replace H := Option.bind_eq_some_iff.mp H
 obtain ⟨t323, A40, H⟩ := H
 replace H : ((cambiumlaw06_few.f a0_0 l0_1 l0_2).bind fun bt324 => ((node_Write.f k bt324.1 bt324.2.1 bt324.2.2 a1 a2).bind fun bt331 => ((cambiumref06_Write.f k bt324.1 bt324.2.1 bt324.2.2 a1 a2).bind fun bt335 => (if t323 = true then (if (strOfNums bt331.1).toList = (strOfNums bt335.1).toList then (some (bt331.2 == bt335.2)) else (some false)) else (some false))))) = some r := H
 have A4 := Aside0.mk A40
 clear A40
 replace H := Option.bind_eq_some_iff.mp H
 obtain ⟨⟨t324, t325, t328⟩, A50, H⟩ := H
 replace H : ((node_Write.f k t324 t325 t328 a1 a2).bind fun bt331 => ((cambiumref06_Write.f k t324 t325 t328 a1 a2).bind fun bt335 => (if t323 = true then (if (strOfNums bt331.1).toList = (strOfNums bt335.1).toList then (some (bt331.2 == bt335.2)) else (some false)) else (some false)))) = some r := H
 have A5 := Aside0.mk A50
 clear A50
 replace H := Option.bind_eq_some_iff.mp H
 obtain ⟨⟨t331, t334⟩, A60, H⟩ := H
 replace H : ((cambiumref06_Write.f k t324 t325 t328 a1 a2).bind fun bt335 => (if t323 = true then (if (strOfNums t331).toList = (strOfNums bt335.1).toList then (some (t334 == bt335.2)) else (some false)) else (some false))) = some r := H
 have A6 := Aside0.mk A60
 clear A60
 replace H := Option.bind_eq_some_iff.mp H
 obtain ⟨⟨t335, t338⟩, A70, H⟩ := H
 replace H : (if t323 = true then (if (strOfNums t331).toList = (strOfNums t335).toList then (some (t334 == t338)) else (some false)) else (some false)) = some r := H
 have A7 := Aside0.mk A70
 clear A70
 by_cases c8 : t323 = true
 ·subst c8
  have H1 : (if (strOfNums t331).toList = (strOfNums t335).toList then (some (t334 == t338)) else (some false)) = some r := by rw [if_pos rfl] at H; exact H
  clear H
  have H := H1
  clear H1
  by_cases c9 : (strOfNums t331).toList = (strOfNums t335).toList
  ·rw [if_pos c9] at H
   have c9b0 : ((strOfNums t331).toList == (strOfNums t335).toList) = true := beq_iff_eq.mpr c9
   have c9b1 : ((strOfNums t331).toList != (strOfNums t335).toList) = false := bne_eq_false_iff_eq.mpr c9
   clear c9
   obtain rfl := Option.some.inj H
   go_enter Try.func4, Try.ntmps4
   go_wp2_with (first | ((with_reducible refine gate_dst (N := 3) rfl ?_); refine box_event ?hg (N := 3) ?hd (cs := #[.int .i64 a0_0, .slice A0_1 l0_1.length c0_1, .slice A0_2 l0_2.length c0_2]) (t := 25) ?hr ?_; (case hd => rfl); (case hg => rfl); (case hr => first | (go_simp; done) | (go_simp; rfl)); intro gb322 hg w10 hbox hb; have n0_ := Aside0.mk (below_step q0_ hb); have n1_ := Aside0.mk (hbox); have n2_ := Aside0.mk ((by rw [hg]; exact (below_size q0_) : w.heap.size ≤ gb322)); have n3_ := Aside0.mk ((by rw [hg]; exact (below_size q0_) : w.heap.size ≤ gb322)); clear HB; have HB := n0_; have BK322 := n1_; have GW322 := n2_; have GE322 := n3_; clear n0_ n1_ n2_ n3_; clear hb hbox hg) | ((with_reducible refine gate_callee (f := 9) rfl ?_); refine goesL_ (some 12) rfl rfl Try.func9 q8_ rfl #[] rfl q1_ ?_; (with_reducible refine (cambiumlaw06_shown.calls  true _ A4.out).mono ?_); rintro e w11 ⟨rfl, hb⟩; refine ⟨_, rfl, ?_⟩; have n0_ := Aside0.mk (blk_below (g := gb322) (o := .cells #[.int .i64 a0_0, .slice A0_1 l0_1.length c0_1, .slice A0_2 l0_2.length c0_2] 25 (0, 0)) q193_ hb); have n1_ := Aside0.mk (below_step q83_ hb); clear BK322; clear HB; have BK322 := n0_; have HB := n1_; clear n0_ n1_; (try clear hb); (try clear hb2); (try clear hk); (try clear hi); have hcz12_0 : w11.cell? ⟨gb322, 0, none⟩ = some (.int .i64 a0_0) := (blk_cell BK322.out 0).trans rfl; have hcz12_1 : w11.cell? ⟨gb322, 1, none⟩ = some (.slice A0_1 l0_1.length c0_1) := (blk_cell BK322.out 1).trans rfl; have hcz12_2 : w11.cell? ⟨gb322, 2, none⟩ = some (.slice A0_2 l0_2.length c0_2) := (blk_cell BK322.out 2).trans rfl; have hfz12_0 := blk_frozen BK322.out 0; have hfz12_1 := blk_frozen BK322.out 1; have hfz12_2 := blk_frozen BK322.out 2) | ((with_reducible refine gate_callee (f := 10) rfl ?_); refine goesL_ (some 14) rfl rfl Try.func10 q8_ rfl #[.agg #[.int .i64 a0_0, .slice A0_1 l0_1.length c0_1, .slice A0_2 l0_2.length c0_2]] rfl q1_ ?_; (with_reducible refine (cambiumlaw06_few.calls a0_0 (fun k_ => k_ < w.heap.size) _ _ l0_1 (fun k_ => k_ < w.heap.size) _ _ l0_2 t324 t325 t328 _ ?side1 ?side2 A5.out).mono ?_); (case side1 => exact Kd.V_mk HC0_1.out (Kd.F_below (Kd.C_F k52_heap HR0_1.out) q83_)); (case side2 => exact Kd.V_mk HC0_2.out (Kd.F_below (Kd.C_F k57_heap HR0_2.out) q83_)); rintro e w13 ⟨v326, v329, rfl, ho0, ho1, hb⟩; refine ⟨_, rfl, ?_⟩; have n0_ := Aside0.mk (Kd.V_lower (Kd.V_mono (ok' := fun k_ => k_ ≠ gb322) ho0 (fun k_ hk_ => Or.elim hk_ (fun hs_ => Or.elim hs_ (fun hs_ => fun e_ => Nat.not_le.2 hs_ (by rw [e_]; exact GW322.out)) (fun hs_ => fun e_ => Nat.not_le.2 hs_ (by rw [e_]; exact GW322.out))) (fun hn_ => (Kd.freshB (g := gb322) (o := .cells #[.int .i64 a0_0, .slice A0_1 l0_1.length c0_1, .slice A0_2 l0_2.length c0_2] 25 (0, 0)) q193_ k_ hn_)))) (below_size q83_)); have n1_ := Aside0.mk (Kd.V_lower (Kd.V_mono (ok' := fun k_ => k_ ≠ gb322) ho1 (fun k_ hk_ => Or.elim hk_ (fun hs_ => Or.elim hs_ (fun hs_ => fun e_ => Nat.not_le.2 hs_ (by rw [e_]; exact GW322.out)) (fun hs_ => fun e_ => Nat.not_le.2 hs_ (by rw [e_]; exact GW322.out))) (fun hn_ => (Kd.freshB (g := gb322) (o := .cells #[.int .i64 a0_0, .slice A0_1 l0_1.length c0_1, .slice A0_2 l0_2.length c0_2] 25 (0, 0)) q193_ k_ hn_)))) (below_size q83_)); have n2_ := Aside0.mk (blk_below (g := gb322) (o := .cells #[.int .i64 a0_0, .slice A0_1 l0_1.length c0_1, .slice A0_2 l0_2.length c0_2] 25 (0, 0)) q193_ hb); have n3_ := Aside0.mk (below_step q83_ hb); clear BK322; clear HB; have HO327 := n0_; have HO330 := n1_; have BK322 := n2_; have HB := n3_; clear n0_ n1_ n2_ n3_; (try clear hb); (try clear hb2); (try clear hk); (try clear hi); (try clear ho0); (try clear ho1); have hcz14_0 : w13.cell? ⟨gb322, 0, none⟩ = some (.int .i64 a0_0) := (blk_cell BK322.out 0).trans rfl; have hcz14_1 : w13.cell? ⟨gb322, 1, none⟩ = some (.slice A0_1 l0_1.length c0_1) := (blk_cell BK322.out 1).trans rfl; have hcz14_2 : w13.cell? ⟨gb322, 2, none⟩ = some (.slice A0_2 l0_2.length c0_2) := (blk_cell BK322.out 2).trans rfl; have hfz14_0 := blk_frozen BK322.out 0; have hfz14_1 := blk_frozen BK322.out 1; have hfz14_2 := blk_frozen BK322.out 2; obtain ⟨Ao15, co15, eo15⟩ := Kd.V_slice HO327.out; subst eo15; obtain ⟨Ao16, co16, eo16⟩ := Kd.V_slice HO330.out; subst eo16) | ((with_reducible refine gate_callee (f := 13) rfl ?_); refine goesL_ (some 19) rfl rfl Try.func13 q8_ rfl #[.agg #[.int .i64 t324, .slice Ao15 t325.length co15, .slice Ao16 t328.length co16], .int .i64 a1, .int .i64 a2] rfl q1_ ?_; (with_reducible refine (node_Write.calls k t324 _ _ t325 _ _ t328 a1 a2 t331 t334 _ ?side1 ?side2 ?side3 ?side4 A6.out).mono ?_); (case side1 => refine (Kd.V_reads' (e := 52) (base := w.heap.size) (ok := fun k_ => k_ ≠ gb322) (n := t325.length) (c := co15) ?_).2.2; exact q206_); (case side2 => exact (Kd.V_reads' HO327.out).2.1); (case side3 => refine (Kd.V_reads' (e := 57) (base := w.heap.size) (ok := fun k_ => k_ ≠ gb322) (n := t328.length) (c := co16) ?_).2.2; exact q207_); (case side4 => exact (Kd.V_reads' HO330.out).2.1); rintro e w17 ⟨v332, rfl, ho0, hb⟩; refine ⟨_, rfl, ?_⟩; have n0_ := Aside0.mk (Kd.V_elder' q206_ (Kd.R_base ho0) hb); have n1_ := Aside0.mk (Kd.V_elder' q207_ (Kd.R_base ho0) hb); have n2_ := Aside0.mk (Kd.R_lower ho0 (below_size q83_)); have n3_ := Aside0.mk (blk_below (g := gb322) (o := .cells #[.int .i64 t324, .slice Ao15 t325.length co15, .slice Ao16 t328.length co16] 25 (0, 0)) (by (with_reducible repeat (first | refine blk_drewN ?_ _ | refine blk_drew ?_ | refine blk_alloc ?_ _)); refine blk_put (cs := #[.int .i64 t324, .slice Ao15 t325.length co15, .slice A0_2 l0_2.length c0_2]) ?_ 2 _ rfl; (with_reducible repeat (first | refine blk_drewN ?_ _ | refine blk_drew ?_ | refine blk_alloc ?_ _)); refine blk_put (cs := #[.int .i64 t324, .slice A0_1 l0_1.length c0_1, .slice A0_2 l0_2.length c0_2]) ?_ 1 _ rfl; (with_reducible repeat (first | refine blk_drewN ?_ _ | refine blk_drew ?_ | refine blk_alloc ?_ _)); refine blk_put (cs := #[.int .i64 a0_0, .slice A0_1 l0_1.length c0_1, .slice A0_2 l0_2.length c0_2]) ?_ 0 _ rfl; (with_reducible repeat (first | refine blk_drewN ?_ _ | refine blk_drew ?_ | refine blk_alloc ?_ _)); exact BK322.out) hb); have n4_ := Aside0.mk (below_step q83_ hb); clear HO327; clear HO330; clear BK322; clear HB; have HO327 := n0_; have HO330 := n1_; have HO333 := n2_; have BK322 := n3_; have HB := n4_; clear n0_ n1_ n2_ n3_ n4_; (try clear hb); (try clear hb2); (try clear hk); (try clear hi); (try clear ho0); have hcz18_0 : w17.cell? ⟨gb322, 0, none⟩ = some (.int .i64 t324) := (blk_cell BK322.out 0).trans rfl; have hcz18_1 : w17.cell? ⟨gb322, 1, none⟩ = some (.slice Ao15 t325.length co15) := (blk_cell BK322.out 1).trans rfl; have hcz18_2 : w17.cell? ⟨gb322, 2, none⟩ = some (.slice Ao16 t328.length co16) := (blk_cell BK322.out 2).trans rfl; have hfz18_0 := blk_frozen BK322.out 0; have hfz18_1 := blk_frozen BK322.out 1; have hfz18_2 := blk_frozen BK322.out 2) | ((with_reducible refine gate_callee (f := 14) rfl ?_); refine goesL_ (some 26) rfl rfl Try.func14 q8_ rfl #[.agg #[.int .i64 t324, .slice Ao15 t325.length co15, .slice Ao16 t328.length co16], .int .i64 a1, .int .i64 a2] rfl q1_ ?_; (with_reducible refine (cambiumref06_Write.calls k t324 _ _ t325 _ _ t328 a1 a2 t335 t338 _ ?side1 ?side2 ?side3 ?side4 A7.out).mono ?_); (case side1 => repeat (first | exact (Kd.V_reads' HO327.out).2.2 | (with_reducible refine Kd.C_alloc ?_ _) | (with_reducible refine Kd.C_drewN ?_ _) | (with_reducible refine Kd.C_drew ?_))); (case side2 => exact (Kd.V_reads' HO327.out).2.1); (case side3 => repeat (first | exact (Kd.V_reads' HO330.out).2.2 | (with_reducible refine Kd.C_alloc ?_ _) | (with_reducible refine Kd.C_drewN ?_ _) | (with_reducible refine Kd.C_drew ?_))); (case side4 => exact (Kd.V_reads' HO330.out).2.1); rintro e w19 ⟨v336, rfl, ho0, hb⟩; refine ⟨_, rfl, ?_⟩; have n0_ := Aside0.mk (Kd.V_elder' (by (with_reducible repeat (first | apply Kd.V_alloc | apply Kd.V_drewN | apply Kd.V_drew)); exact HO327.out) (Kd.R_base ho0) hb); have n1_ := Aside0.mk (Kd.V_elder' (by (with_reducible repeat (first | apply Kd.V_alloc | apply Kd.V_drewN | apply Kd.V_drew)); exact HO330.out) (Kd.R_base ho0) hb); have n2_ := Aside0.mk (Kd.R_elder' (by (with_reducible repeat (first | apply Kd.R_alloc | apply Kd.R_drewN | apply Kd.R_drew)); exact HO333.out) (Kd.R_base ho0) hb); have n3_ := Aside0.mk (Kd.R_lower (Kd.R_new' ho0 (Kd.R_lt (by (with_reducible repeat (first | apply Kd.R_alloc | apply Kd.R_drewN | apply Kd.R_drew)); exact HO333.out))) (below_size q83_)); have n4_ := Aside0.mk (blk_below (g := gb322) (o := .cells #[.int .i64 t324, .slice Ao15 t325.length co15, .slice Ao16 t328.length co16] 25 (0, 0)) q193_ hb); have n5_ := Aside0.mk (below_step q83_ hb); clear HO327; clear HO330; clear HO333; clear BK322; clear HB; have HO327 := n0_; have HO330 := n1_; have HO333 := n2_; have HO337 := n3_; have BK322 := n4_; have HB := n5_; clear n0_ n1_ n2_ n3_ n4_ n5_; (try clear hb); (try clear hb2); (try clear hk); (try clear hi); (try clear ho0); (first | (have hcv20 := own_string (P := Try.prog) Try.underlying29 Try.underlying5 Try.underlying9 (Kd.own_of_R HO333.out); have hcv20n := fun n_ : Nat => own_string (P := Try.prog) Try.underlying29 Try.underlying5 Try.underlying9 (Kd.own_of_R (Kd.R_drewN HO333.out n_))) | (have hcv20 := fun c_ : Nat => Kd.C_string (c := c_) (P := Try.prog) Try.underlying29 Try.underlying5 Try.underlying9 (Kd.V_reads' HO333.out).2.2; have hcv20n := fun (c_ n_ : Nat) => Kd.C_string (c := c_) (P := Try.prog) Try.underlying29 Try.underlying5 Try.underlying9 (Kd.C_drewN (Kd.V_reads' HO333.out).2.2 n_)) | (have hcv20 := Own.V_string (P := Try.prog) Try.underlying29 Try.underlying5 Try.underlying9 HO333.out; have hcv20n := fun (n_ : Nat) => Own.V_string (P := Try.prog) Try.underlying29 Try.underlying5 Try.underlying9 (Kd.V_drewN HO333.out n_))); (try (first | (have hcv20b322 := fun (u0_ u1_ u2_ : Value) => own_string (P := Try.prog) Try.underlying29 Try.underlying5 Try.underlying9 (Kd.own_of_R (Kd.R_far (p := ⟨gb322, 2, none⟩) (Kd.R_far (p := ⟨gb322, 1, none⟩) (Kd.R_far (p := ⟨gb322, 0, none⟩) (Kd.R_types HO333.out BK322.out q210_) (fun _ hk => hk.2) u0_) (fun _ hk => hk.2) u1_) (fun _ hk => hk.2) u2_))) | (have hcv20b322 := fun (u0_ u1_ u2_ : Value) => Own.V_string (P := Try.prog) Try.underlying29 Try.underlying5 Try.underlying9 (Kd.V_far (p := ⟨gb322, 2, none⟩) (Kd.V_far (p := ⟨gb322, 1, none⟩) (Kd.V_far (p := ⟨gb322, 0, none⟩) HO333.out (fun k_ hk => by first | exact hk.2 | (show k_ ≠ gb322; omega) | (intro e_; simp_all)) u0_) (fun k_ hk => by first | exact hk.2 | (show k_ ≠ gb322; omega) | (intro e_; simp_all)) u1_) (fun k_ hk => by first | exact hk.2 | (show k_ ≠ gb322; omega) | (intro e_; simp_all)) u2_)))); (first | (have hcv21 := own_string (P := Try.prog) Try.underlying29 Try.underlying5 Try.underlying9 (Kd.own_of_R HO337.out); have hcv21n := fun n_ : Nat => own_string (P := Try.prog) Try.underlying29 Try.underlying5 Try.underlying9 (Kd.own_of_R (Kd.R_drewN HO337.out n_))) | (have hcv21 := fun c_ : Nat => Kd.C_string (c := c_) (P := Try.prog) Try.underlying29 Try.underlying5 Try.underlying9 (Kd.V_reads' HO337.out).2.2; have hcv21n := fun (c_ n_ : Nat) => Kd.C_string (c := c_) (P := Try.prog) Try.underlying29 Try.underlying5 Try.underlying9 (Kd.C_drewN (Kd.V_reads' HO337.out).2.2 n_)) | (have hcv21 := Own.V_string (P := Try.prog) Try.underlying29 Try.underlying5 Try.underlying9 HO337.out; have hcv21n := fun (n_ : Nat) => Own.V_string (P := Try.prog) Try.underlying29 Try.underlying5 Try.underlying9 (Kd.V_drewN HO337.out n_))); (try (first | (have hcv21b322 := fun (u0_ u1_ u2_ : Value) => own_string (P := Try.prog) Try.underlying29 Try.underlying5 Try.underlying9 (Kd.own_of_R (Kd.R_far (p := ⟨gb322, 2, none⟩) (Kd.R_far (p := ⟨gb322, 1, none⟩) (Kd.R_far (p := ⟨gb322, 0, none⟩) (Kd.R_types HO337.out BK322.out q210_) (fun _ hk => hk.2) u0_) (fun _ hk => hk.2) u1_) (fun _ hk => hk.2) u2_))) | (have hcv21b322 := fun (u0_ u1_ u2_ : Value) => Own.V_string (P := Try.prog) Try.underlying29 Try.underlying5 Try.underlying9 (Kd.V_far (p := ⟨gb322, 2, none⟩) (Kd.V_far (p := ⟨gb322, 1, none⟩) (Kd.V_far (p := ⟨gb322, 0, none⟩) HO337.out (fun k_ hk => by first | exact hk.2 | (show k_ ≠ gb322; omega) | (intro e_; simp_all)) u0_) (fun k_ hk => by first | exact hk.2 | (show k_ ≠ gb322; omega) | (intro e_; simp_all)) u1_) (fun k_ hk => by first | exact hk.2 | (show k_ ≠ gb322; omega) | (intro e_; simp_all)) u2_))))))
   go_ret
   exact ⟨q6_, by repeat (first | (with_reducible first | exact HB.out | apply below_alloc | apply pw_below_drewN | apply below_drew1 | refine below_set ?_ GE322.out) | exact HB.out)⟩
  ·rw [if_neg c9] at H
   have c9b0 : ((strOfNums t331).toList == (strOfNums t335).toList) = false := beq_eq_false_iff_ne.mpr c9
   have c9b1 : ((strOfNums t331).toList != (strOfNums t335).toList) = true := bne_iff_ne.mpr c9
   exact absurd (Option.some.inj H) (by rw [hr_.out]; decide)
 ·replace c8 := Bool.eq_false_iff.mpr c8
  subst c8
  have H1 : (some false) = some r := by rw [if_neg (show ¬ (false = true) by decide)] at H; exact H
  clear H
  have H := H1
  clear H1
  exact absurd (Option.some.inj H) (by rw [hr_.out]; decide)

/-- THE ONE PURE STATEMENT of cambiumlaw06_NodeWrites: yours. -/
def cambiumlaw06_NodeWrites.Pure : Prop := ∀ (a0_0 : Int) (l0_1 : List (S52)) (l0_2 : List (S57)) (a1 : Int) (a2 : Int), (Lit.int .i64 a0_0).wf = true → (l0_1.length ≤ maxLen ∧ ∀ y0_ ∈ l0_1, ((Lit.int .i64 y0_.f0.f0).wf = true ∧ (Lit.int .i64 y0_.f0.f1).wf = true ∧ (Lit.int .i64 y0_.f0.f2).wf = true ∧ (y0_.f1.length ≤ maxLen ∧ ∀ y1_ ∈ y0_.f1, (Lit.int .u8 y1_).wf = true))) → (l0_2.length ≤ maxLen ∧ ∀ y0_ ∈ l0_2, ((Lit.int .i64 y0_.f0.f0).wf = true ∧ (Lit.int .i64 y0_.f0.f1).wf = true ∧ (Lit.int .i64 y0_.f0.f2).wf = true ∧ (Lit.int .i64 y0_.f1).wf = true)) → (Lit.int .i64 a1).wf = true → (Lit.int .i64 a2).wf = true → ∃ k, cambiumlaw06_NodeWrites.f k a0_0 l0_1 l0_2 a1 a2 = some true
theorem cambiumlaw06_NodeWrites.walk (P : cambiumlaw06_NodeWrites.Pure) (a0_0 : Int) (A0_1 : Option Addr) (c0_1 : Nat) (l0_1 : List (S52)) (A0_2 : Option Addr) (c0_2 : Nat) (l0_2 : List (S57)) (a1 : Int) (a2 : Int) (w : World) (w0_0 : (Lit.int .i64 a0_0).wf = true) (hr0_1 : Kd.C k52 w A0_1 l0_1.length l0_1) (hc0_1 : l0_1.length ≤ c0_1) (w0_1 : (l0_1.length ≤ maxLen ∧ ∀ y0_ ∈ l0_1, ((Lit.int .i64 y0_.f0.f0).wf = true ∧ (Lit.int .i64 y0_.f0.f1).wf = true ∧ (Lit.int .i64 y0_.f0.f2).wf = true ∧ (y0_.f1.length ≤ maxLen ∧ ∀ y1_ ∈ y0_.f1, (Lit.int .u8 y1_).wf = true)))) (hr0_2 : Kd.C k57 w A0_2 l0_2.length l0_2) (hc0_2 : l0_2.length ≤ c0_2) (w0_2 : (l0_2.length ≤ maxLen ∧ ∀ y0_ ∈ l0_2, ((Lit.int .i64 y0_.f0.f0).wf = true ∧ (Lit.int .i64 y0_.f0.f1).wf = true ∧ (Lit.int .i64 y0_.f0.f2).wf = true ∧ (Lit.int .i64 y0_.f1).wf = true))) (w1 : (Lit.int .i64 a1).wf = true) (w2 : (Lit.int .i64 a2).wf = true) :
  Calls Try.prog 4 #[.agg #[.int .i64 a0_0, .slice A0_1 l0_1.length c0_1, .slice A0_2 l0_2.length c0_2], .int .i64 a1, .int .i64 a2] w fun e w' => e = .returned (.bool true) ∧ Below w.heap.size w w' := by
 obtain ⟨k, h⟩ := P a0_0 l0_1 l0_2 a1 a2 w0_0 w0_1 w0_2 w1 w2
 refine (cambiumlaw06_NodeWrites.calls k a0_0 A0_1 c0_1 l0_1 A0_2 c0_2 l0_2 a1 a2 true w hr0_1 hc0_1 hr0_2 hc0_2 ⟨rfl⟩ h).mono ?_
 rintro e w' ⟨rfl, hd⟩
 exact ⟨rfl, hd⟩

/-! ### GIVEN num_Take: function 45 -/
def takeStep (x c : Int) : Int := Go.bits .or .i64 (wrap64 (x * 256)) (wrap64 c)
def num_Take.f (l0 : List Int) (n : Int) : Option (Int × List Int × Int) :=
 if n < 1 ∨ 7 < n then some (0, [], 1) else if (l0.length : Int) < n then some (0, [], 2) else (num_join.f [] (l0.drop n.toNat)).bind fun r => some ((l0.take n.toNat).foldl takeStep 0, r, 0)
theorem foldT (l : List Int) (a : Int) (k : Nat) (h : k < l.length) : (l.take (k + 1)).foldl takeStep a = takeStep ((l.take k).foldl takeStep a) (rd l k) := by
 rw [List.take_succ_eq_append_getElem h, List.foldl_append]
 simp [rd, List.getD_eq_getElem?_getD, h]
set_option maxRecDepth 100000 in
set_option maxHeartbeats 1000000 in
theorem num_Take.calls (A0 : Option Addr) (c0 : Nat) (l0 : List Int) (n : Int) (r1 : Int) (r2 : List Int) (r3 : Int) (w : World) (hr0 : Kd.C (Kd.int .u8) w A0 l0.length l0) (hc0 : l0.length ≤ c0) (h : num_Take.f l0 n = some (r1, r2, r3)) :
  Calls Try.prog 45 #[.slice A0 l0.length c0, .int .i64 n] w fun e w' => ∃ v1_ : Value, e = .returned (.tuple #[.int .i64 r1, v1_, .int .i64 r3]) ∧ Kd.R (Kd.int .u8) 5 w' w.heap.size (fun _ => True) v1_ r2 ∧ Below w.heap.size w w' := by
 have HR0 := Aside0.mk hr0
 have HC0 := Aside0.mk hc0
 have HM := Aside0.mk hr0.2.1
 clear hr0 hc0
 unfold num_Take.f at h
 by_cases hbad : n < 1 ∨ 7 < n
 ·rw [if_pos hbad] at h
  obtain ⟨rfl, rfl, rfl⟩ : 0 = r1 ∧ [] = r2 ∧ 1 = r3 := by simpa using h
  clear h
  rcases hbad with hbad | hbad
  all_goals
   go_enter Try.func45, Try.ntmps45
   go_wp2
   go_ret3
   exact ⟨_, rfl, Kd.R_nil _ _ _ _ _, Below.refl _ _⟩
 rw [if_neg hbad] at h
 have h1 : 1 ≤ n := by omega
 have h7 : n ≤ 7 := by omega
 clear hbad
 obtain ⟨m, rfl⟩ : ∃ m : Nat, n = m := ⟨n.toNat, by omega⟩
 have hm := HM.out
 by_cases hsh : (l0.length : Int) < m
 ·rw [if_pos hsh] at h
  obtain ⟨rfl, rfl, rfl⟩ : 0 = r1 ∧ [] = r2 ∧ 2 = r3 := by simpa using h
  clear h
  have hsh2 : decide (l0.length < m) = true := by simp; omega
  go_enter Try.func45, Try.ntmps45
  go_wp2
  go_ret3
  exact ⟨_, rfl, Kd.R_nil _ _ _ _ _, Below.refl _ _⟩
 ·rw [if_neg hsh] at h
  obtain ⟨q, hq, hr⟩ := Option.bind_eq_some_iff.1 h
  obtain ⟨rfl, rfl, rfl⟩ : _ = r1 ∧ q = r2 ∧ 0 = r3 := by simpa using hr
  rw [Int.toNat_natCast] at *
  have HQ := Aside0.mk hq
  clear h hr hq
  have hsh2 : decide (l0.length < m) = false := by simp; omega
  have hle : m ≤ l0.length := by omega
  obtain ⟨i0, hi0, _, hs0, _⟩ := info_parts info5
  have hcut := cut_to (P := Try.prog) 29 5 .i64 Try.underlying29 hi0 A0 l0.length c0 m (by omega) (by omega) HC0.out
  rw [Int.toNat_natCast] at hcut
  obtain ⟨A1, ys, HY, hcut2, HD, HCD⟩ := Own.cut_drop (P := Try.prog) (Kd.int .u8) 29 5 .i64 Try.underlying29 q8_ HR0.out HC0.out m hle
  go_enter Try.func45, Try.ntmps45
  go_wp2
  go_loop [7, 26] (fun v i => ∃ k : Nat, k ≤ m ∧ i = .int .i64 k ∧ v = .int .i64 ((l0.take k).foldl takeStep 0)) (fun _ i => m - (intOf i).toNat)
  case atStart => exact ⟨0, by omega, rfl, rfl⟩
  case round =>
   obtain ⟨k, hk, rfl, rfl⟩ := hrel
   by_cases hlt : k < m
   ·have HF := Aside0.mk (foldT l0 0 k (by omega))
    obtain ⟨ad, hAd, hcell⟩ := Kd.at_int HR0.out (k : Int) (by omega) (by omega)
    subst hAd
    rw [Int.toNat_natCast] at hcell
    go_wp2
    go_round
    case rel => exact ⟨k + 1, by omega, by go_num, by rw [HF.out]; rfl⟩
    case measure => simp [intOf]; omega
   ·obtain rfl : k = m := by omega
    go_wp2_with (go_at_call 53; refine (num_join.calls none 0 [] _ _ ys q _ (Kd.C_nil _ _) (Nat.le_refl _) HD.out HCD.out (by rw [HY.out]; exact HQ.out)).mono ?_; rintro e w1 ⟨v1, rfl, ho, hb⟩; have HO := Aside0.mk ho; have HB1 := Aside0.mk hb; clear ho hb)
    go_ret3
    exact ⟨_, rfl, HO.out, HB1.out⟩
/-! ### end of GIVEN -/
/-! ### GIVEN seal_Open_1: function 60 -/
theorem grown_set {w w1 : World} (hb : Below w.heap.size w w1) (g : Nat) (v : Value) : w.grownBy (w1.setCell ⟨g, 0, none⟩ v) (some g) :=
 ⟨hb.os, hb.tape, hb.output, by rw [World.size_setCell]; exact hb.size, fun k hk hne => (heap_setCell_other w1 ⟨g, 0, none⟩ k v (fun e => hne (congrArg some e))).trans (hb.block k hk)⟩
set_option maxHeartbeats 1000000 in
/-- The number that 'next' takes off the bytes in block g; the rest stands there behind it. -/
theorem seal_next.calls (g : Nat) (A0 : Option Addr) (c0 : Nat) (l0 : List Int) (n r1 : Int) (r2 : List Int) (r3 : Int) (w : World) (hg : w.heap[g]? = some (.cells #[.slice A0 l0.length c0] 29 (0, 0))) (hr0 : Kd.C (Kd.int .u8) w A0 l0.length l0) (hc0 : l0.length ≤ c0) (h : num_Take.f l0 n = some (r1, r2, r3)) :
  Calls Try.prog 60 #[.int .i64 n, .pointer (some ⟨g, 0, none⟩)] w fun e w' => ∃ (A1 : Option Addr) (c1 : Nat), e = .returned (.int .i64 r1) ∧ w'.heap[g]? = some (.cells #[.slice A1 r2.length c1] 29 (0, 0)) ∧ Kd.R (Kd.int .u8) 5 w' w.heap.size (fun k_ => w.heap.size ≤ k_) (.slice A1 r2.length c1) r2 ∧ w.grownBy w' (some g) := by
 have HG := Aside0.mk hg
 have HR := Aside0.mk hr0
 have HC := Aside0.mk hc0
 have HT := Aside0.mk h
 have hcell := blk_cell hg 0
 rw [show (#[Value.slice A0 l0.length c0] : Array Value)[0]? = some (.slice A0 l0.length c0) from rfl] at hcell
 clear hg hr0 hc0 h
 go_enter Try.func60, Try.ntmps60
 go_wp2_with fail
 refine (num_Take.calls A0 c0 l0 n r1 r2 r3 _ HR.out HC.out HT.out).mono ?_
 rintro e w1 ⟨v1, rfl, ho, hb⟩
 obtain ⟨A1, c1, he1⟩ := Kd.R_slice ho
 subst he1
 have HG1 := Aside0.mk (blk_below HG.out hb)
 have hcell1 := blk_cell HG1.out 0
 rw [show (#[Value.slice A0 l0.length c0] : Array Value)[0]? = some (.slice A0 l0.length c0) from rfl] at hcell1
 have hfro1 := blk_frozen HG1.out 0
 have HO := Aside0.mk ho
 have HB := Aside0.mk hb
 clear ho hb hcell
 go_wp2
 go_ret
 exact ⟨A1, c1, rfl, heap_setCell_same _ _ _ _ _ _ HG1.out, Kd.R_far (p := ⟨g, 0, none⟩) (Kd.R_mono (Kd.R_bound HO.out) (fun k hk => hk.2.1)) (fun k hk => by have := blk_lt HG.out; show k ≠ g; omega) _, grown_set HB.out g _⟩
/-! ### end of GIVEN -/
end Go.Proofs.Ytcjnknpbikfimaa.P
