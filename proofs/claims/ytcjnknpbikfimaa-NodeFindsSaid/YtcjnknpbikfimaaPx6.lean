/- Functions and contracts, written by a program (mkprint.py, a wrapper of ours around the print); texts between GIVEN marks are ours. -/
import Derived.Test.YtcjnknpbikfimaaPx0
import Derived.Test.YtcjnknpbikfimaaPx4
import Derived.Test.YtcjnknpbikfimaaPx5
namespace Go.Proofs.Ytcjnknpbikfimaa.P
open Go.RowKit Go.Proofs.YtcjnknpbikfimaaW.PrintWords Go.Proofs.YtcjnknpbikfimaaW.PrintLast Go.Proofs.YtcjnknpbikfimaaW.PrintMore
attribute [local go_sem] max2_int min2_int max_two min_two max_three min_three max_four min_four   -- for this text's walks alone
set_option linter.unusedVariables false
set_option linter.unusedSimpArgs false

/-! ### GIVEN api_Kid_29: function 29 -/
/-- Keys of cambium/api.Kid that may be, and rise. -/
def key57 (l : List S57) (j : Nat) : S35 := (l.getD j z57).f0
def rises57_T : Bool × List (List Nat × List Nat) := (true, [([], []), ([], []), ([0, 1], [0, 1]), ([2, 2], [2]), ([3], [3]), ([4, 3], [4]), ([5], [5]), ([6, 5], [5, 6]), ([7, 5, 5], [5, 7]), ([8], [8]), ([8], [8]), ([8], [8]), ([11, 8], [8, 11]), ([10, 12, 8], [8, 10, 12]), ([13, 8], [8, 13]), ([9, 14, 8, 8], [8, 9, 14]), ([8], [8]), ([8], [8]), ([16, 17, 15, 8], [8, 16, 17]), ([15, 18, 18, 8], [8, 15, 18]), ([19, 8], [8, 19]), ([8, 20, 5], [5, 8, 20]), ([5, 21], [5, 21])])
def rises57_B : List Nat := [0, 0, 3, 7, 15, 31, 63, 127, 255, 511, 511, 511, 2559, 7679, 15871, 32767, 511, 511, 262143, 524287, 1048575, 2097151, 4194303]
theorem rises57_tab : rtab .any (opsOf Try.f29 4) = rises57_T := by kernel_rfl
theorem rises57_bits : waitsOk rises57_T.2 rises57_B = true := by kernel_rfl
def api_Kid_29.f (l0 : List S57) : Option Bool := if l0.length ≤ 1000 then some (risesBy l0.length (key57 l0)) else none
set_option maxHeartbeats 4000000 in
set_option maxRecDepth 100000 in
theorem api_Kid_29.calls (A0 : Option Addr) (c0 : Nat) (l0 : List (S57)) (r : Bool) (w : World) (hr0 : Kd.C k57 w A0 l0.length l0) (hc0 : l0.length ≤ c0) (h : api_Kid_29.f l0 = some r) :
  Calls Try.prog 29 #[.slice A0 l0.length c0, .func (.func 30) #[] #[]] w fun e w' => e = .returned (.bool r) ∧ Below w.heap.size w w' := by
 rw [api_Kid_29.f] at h
 have hN : l0.length ≤ 1000 := by
  by_cases hq : l0.length ≤ 1000
  ·exact hq
  ·rw [if_neg hq] at h; cases h
 rw [if_pos hN] at h
 obtain rfl := Option.some.inj h
 clear h hc0
 obtain ⟨l, rfl⟩ : ∃ l, l = l0 := ⟨_, rfl⟩
 obtain ⟨N, hNe⟩ : ∃ N, l.length = N := ⟨_, rfl⟩
 rw [hNe] at hr0 hN ⊢
 have HR := Aside0.mk hr0
 have HN := Aside0.mk hN
 have HB0 := Aside0.mk (Below.refl w.heap.size w)
 clear hr0 hN hNe
 go_enter Try.func29, Try.ntmps29
 go_wp2_with fail
 go_loopw [5, 6, 9] (fun _ _ i wr => ∃ a : Nat, i = .int .i64 a ∧ a ≤ N ∧ Aside0 (Below w.heap.size w wr) ∧ Aside0 (∀ j, j < a → okAt (key57 l) j = true)) (fun _ _ i _ => N - (intOf i).toNat)
 case atStart => exact ⟨0, rfl, Nat.zero_le _, HB0, ⟨fun j hj => absurd hj (Nat.not_lt_zero _)⟩⟩
 case round =>
  clear HB0
  obtain ⟨a, rfl, ha, HB, HP⟩ := hrel
  rename_i wr
  by_cases hlt : a < N
  ·have h2 : (a : Int) < (N : Int) := Int.ofNat_lt.2 hlt
   have h1 : decide ((a : Int) < (N : Int)) = true := decide_eq_true h2
   have HC := Aside0.mk (Kd.C_below HR.out HB.out)
   obtain ⟨ad, rfl, k0, k1, k2, k3⟩ := at_T57 HC.out (a : Int) (Int.natCast_nonneg a) h2
   rw [Int.toNat_natCast] at k0 k1 k2 k3
   have HLT := Aside0.mk hlt
   clear ha
   obtain ⟨x, hx⟩ : ∃ x, rd_T57 l (a : Int) = x := ⟨_, rfl⟩
   rw [hx] at k0 k1 k2 k3
   have HX := Aside0.mk (show key57 l a = x.f0 from congrArg (·.f0) hx)
   clear hx
   have HW := Aside0.mk (Below.refl (wr.heap.size + 1) (wr.alloc (.cells #[.int .i64 x.f0.f0, .int .i64 x.f0.f1, .int .i64 x.f0.f2, .int .i64 x.f1] 57)))
   have HBB := Aside0.mk (fun W' (hb : Below (wr.heap.size + 1) (wr.alloc (.cells #[.int .i64 x.f0.f0, .int .i64 x.f0.f1, .int .i64 x.f0.f2, .int .i64 x.f1] 57)) W') => (((Below.refl wr.heap.size wr).alloc (Nat.le_refl _) (.cells #[.int .i64 x.f0.f0, .int .i64 x.f0.f1, .int .i64 x.f0.f2, .int .i64 x.f1] 57)).trans (hb.mono (Nat.le_succ _)) : Below wr.heap.size wr W'))
   have HWW := Aside0.mk (fun W' (hb : Below (wr.heap.size + 1) (wr.alloc (.cells #[.int .i64 x.f0.f0, .int .i64 x.f0.f1, .int .i64 x.f0.f2, .int .i64 x.f1] 57)) W') => below_step HB.out (HBB.out W' hb))
   have HPC := Aside0.mk (fun W' (hb : Below (wr.heap.size + 1) (wr.alloc (.cells #[.int .i64 x.f0.f0, .int .i64 x.f0.f1, .int .i64 x.f0.f2, .int .i64 x.f1] 57)) W') => show W'.cell? ⟨wr.heap.size, 0, none⟩ = some (.int .i64 x.f0.f0) ∧ W'.cell? ⟨wr.heap.size, 1, none⟩ = some (.int .i64 x.f0.f1) ∧ W'.cell? ⟨wr.heap.size, 2, none⟩ = some (.int .i64 x.f0.f2) ∧ W'.cell? ⟨wr.heap.size, 3, none⟩ = some (.int .i64 x.f1) from
    have hbl := (hb.block wr.heap.size (Nat.lt_succ_self _)).trans (blk_new wr (.cells #[.int .i64 x.f0.f0, .int .i64 x.f0.f1, .int .i64 x.f0.f2, .int .i64 x.f1] 57))
    ⟨blk_cell hbl 0, blk_cell hbl 1, blk_cell hbl 2, blk_cell hbl 3⟩)
   have e1 := Aside0.mk (inc_r a N HLT.out HN.out)
   obtain ⟨b, hb⟩ : ∃ b, mayK x.f0 = b := ⟨_, rfl⟩
   have HM := Aside0.mk hb
   clear hb
   cases b with
   | false =>
    go_wp2_with fail
    refine stepStart (fun w' => w'.cell? ⟨wr.heap.size, 0, none⟩ = some (.int .i64 x.f0.f0) ∧ w'.cell? ⟨wr.heap.size, 1, none⟩ = some (.int .i64 x.f0.f1) ∧ w'.cell? ⟨wr.heap.size, 2, none⟩ = some (.int .i64 x.f0.f2) ∧ w'.cell? ⟨wr.heap.size, 3, none⟩ = some (.int .i64 x.f1)) 23 [0, 1, 2, 3, 4, 5, 6, 7, 8, 9, 10, 11, 12, 13, 14, 16, 17, 15, 18, 19, 20, 21, 22] rises57_tab rises57_bits q8_ rfl (HPC.out _ HW.out.drew) (fun HT_ HW_ hHeld => ?_)
    (refine stepPu (v := ?_) rfl rfl (any_of HT_.out q8_) (fun _ _ _ h => h) (Or.inl ⟨by rfl, ?_⟩) (a' := ?_) ?_ ?_; rotate_left; (· intro w'; go_simp; with_reducible rfl); rotate_left; (· (simp only [Act.put, List.setIfInBounds_toArray, List.set_cons_zero, List.set_cons_succ, i64_w, i32_w]; rfl)))
    (refine stepLd (v := ?_) rfl rfl (take_ofW HT_.out HW_.out q8_) (fun _ _ _ h => h) (Or.inl ⟨by rfl, ?_⟩) hHeld (a' := ?_) ?_ ?_; rotate_left; (· rintro w' ⟨s0, s1, s2, s3⟩; go_simp; with_reducible rfl); rotate_left; (· (simp only [Act.put, List.setIfInBounds_toArray, List.set_cons_zero, List.set_cons_succ, i64_w, i32_w]; rfl)))
    refine stepOne rfl rfl (one_of HT_.out q8_) q210_ (fun K hK => ?_)
    refine goesV_ Try.func30 q8_ rfl #[.agg #[.int .i64 x.f0.f0, .int .i64 x.f0.f1, .int .i64 x.f0.f2, .int .i64 x.f1]] (by rfl) rfl rfl q95_ ?_
    with_reducible refine (node_kidKey.calls x.f0.f0 x.f0.f1 x.f0.f2 x.f1 x.f0.f0 x.f0.f1 x.f0.f2 _ rfl).mono ?_
    rintro e w7 ⟨rfl, hb⟩
    refine ⟨_, rfl, ?_⟩
    have H7 := Aside0.mk (below_more HW.out.drew hb)
    clear hb
    refine hK.out _ _ (HPC.out _ H7.out) (fun hHeld => ?_)
    clear hK K
    refine norm_ (a' := ?_) ?_ ?_
    rotate_left
    ·show Act.put _ (some 16) _ = _
     simp only [Act.put, List.setIfInBounds_toArray, List.set_cons_zero, List.set_cons_succ, i64_w, i32_w]
     rfl
    refine stepOne rfl rfl (one_of HT_.out q8_) q210_ (fun K hK => ?_)
    refine goes_ Try.func51 q8_ rfl #[.agg #[.int .i64 x.f0.f0, .int .i64 x.f0.f1, .int .i64 x.f0.f2]] (by rfl) rfl rfl q95_ ?_
    with_reducible refine (key_May.calls _ _ _ _ _ ((MayK x.f0).trans (congrArg some HM.out))).mono ?_
    rintro e w8 ⟨rfl, hb⟩
    refine ⟨_, rfl, ?_⟩
    have H8 := Aside0.mk (below_more H7.out hb)
    clear hb
    refine hK.out _ _ (HPC.out _ H8.out) (fun hHeld => ?_)
    clear hK K
    refine norm_ (a' := ?_) ?_ ?_
    rotate_left
    ·show Act.put _ (some 17) _ = _
     simp only [Act.put, List.setIfInBounds_toArray, List.set_cons_zero, List.set_cons_succ, i64_w, i32_w]
     rfl
    iterate 2 (refine stepPu (v := ?_) rfl rfl (any_of HT_.out q8_) (fun _ _ _ h => h) (Or.inl ⟨by rfl, ?_⟩) (a' := ?_) ?_ ?_; rotate_left; (· intro w'; go_simp; with_reducible rfl); rotate_left; (· (simp only [Act.put, List.setIfInBounds_toArray, List.set_cons_zero, List.set_cons_succ, i64_w, i32_w]; rfl)))
    iterate 16 (refine stepPu (v := undef) rfl rfl (any_of HT_.out q8_) (fun _ _ _ h => h) (Or.inr ⟨by rfl, rfl⟩) (a' := ?_) ?_ ?_; rotate_left; (· (simp only [Act.put, List.setIfInBounds_toArray, List.set_cons_zero, List.set_cons_succ, i64_w, i32_w]; rfl)))
    (refine stepPu (v := ?_) rfl rfl (any_of HT_.out q8_) (fun _ _ _ h => h) (Or.inl ⟨by rfl, ?_⟩) (a' := ?_) ?_ ?_; rotate_left; (· intro w'; go_simp; with_reducible rfl); rotate_left; (· (simp only [Act.put, List.setIfInBounds_toArray, List.set_cons_zero, List.set_cons_succ, i64_w, i32_w]; rfl)))
    refine done_ (done_of HT_.out q8_) ?_
    go_wp2
    go_ret
    rw [risesBy_no HLT.out (okAt_may HX.out HM.out)]
    exact ⟨rfl, HWW.out _ H8.out⟩
   | true =>
    by_cases ha0 : a = 0
    ·have HA0 := Aside0.mk ha0
     have h5 : decide ((a : Int) > 0) = false := decide_eq_false (by rw [ha0]; decide)
     have h6 : decide ((0 : Int) < (a : Int)) = false := h5
     have h7 : decide (0 < a) = false := decide_eq_false (by rw [ha0]; decide)
     clear ha0
     go_wp2_with fail
     refine stepStart (fun w' => w'.cell? ⟨wr.heap.size, 0, none⟩ = some (.int .i64 x.f0.f0) ∧ w'.cell? ⟨wr.heap.size, 1, none⟩ = some (.int .i64 x.f0.f1) ∧ w'.cell? ⟨wr.heap.size, 2, none⟩ = some (.int .i64 x.f0.f2) ∧ w'.cell? ⟨wr.heap.size, 3, none⟩ = some (.int .i64 x.f1)) 23 [0, 1, 2, 3, 4, 5, 6, 7, 8, 9, 10, 11, 12, 13, 14, 16, 17, 15, 18, 19, 20, 21, 22] rises57_tab rises57_bits q8_ rfl (HPC.out _ HW.out.drew) (fun HT_ HW_ hHeld => ?_)
     (refine stepPu (v := ?_) rfl rfl (any_of HT_.out q8_) (fun _ _ _ h => h) (Or.inl ⟨by rfl, ?_⟩) (a' := ?_) ?_ ?_; rotate_left; (· intro w'; go_simp; with_reducible rfl); rotate_left; (· (simp only [Act.put, List.setIfInBounds_toArray, List.set_cons_zero, List.set_cons_succ, i64_w, i32_w]; rfl)))
     (refine stepLd (v := ?_) rfl rfl (take_ofW HT_.out HW_.out q8_) (fun _ _ _ h => h) (Or.inl ⟨by rfl, ?_⟩) hHeld (a' := ?_) ?_ ?_; rotate_left; (· rintro w' ⟨s0, s1, s2, s3⟩; go_simp; with_reducible rfl); rotate_left; (· (simp only [Act.put, List.setIfInBounds_toArray, List.set_cons_zero, List.set_cons_succ, i64_w, i32_w]; rfl)))
     refine stepOne rfl rfl (one_of HT_.out q8_) q210_ (fun K hK => ?_)
     refine goesV_ Try.func30 q8_ rfl #[.agg #[.int .i64 x.f0.f0, .int .i64 x.f0.f1, .int .i64 x.f0.f2, .int .i64 x.f1]] (by rfl) rfl rfl q95_ ?_
     with_reducible refine (node_kidKey.calls x.f0.f0 x.f0.f1 x.f0.f2 x.f1 x.f0.f0 x.f0.f1 x.f0.f2 _ rfl).mono ?_
     rintro e w7 ⟨rfl, hb⟩
     refine ⟨_, rfl, ?_⟩
     have H7 := Aside0.mk (below_more HW.out.drew hb)
     clear hb
     refine hK.out _ _ (HPC.out _ H7.out) (fun hHeld => ?_)
     clear hK K
     refine norm_ (a' := ?_) ?_ ?_
     rotate_left
     ·show Act.put _ (some 16) _ = _
      simp only [Act.put, List.setIfInBounds_toArray, List.set_cons_zero, List.set_cons_succ, i64_w, i32_w]
      rfl
     refine stepOne rfl rfl (one_of HT_.out q8_) q210_ (fun K hK => ?_)
     refine goes_ Try.func51 q8_ rfl #[.agg #[.int .i64 x.f0.f0, .int .i64 x.f0.f1, .int .i64 x.f0.f2]] (by rfl) rfl rfl q95_ ?_
     with_reducible refine (key_May.calls _ _ _ _ _ ((MayK x.f0).trans (congrArg some HM.out))).mono ?_
     rintro e w8 ⟨rfl, hb⟩
     refine ⟨_, rfl, ?_⟩
     have H8 := Aside0.mk (below_more H7.out hb)
     clear hb
     refine hK.out _ _ (HPC.out _ H8.out) (fun hHeld => ?_)
     clear hK K
     refine norm_ (a' := ?_) ?_ ?_
     rotate_left
     ·show Act.put _ (some 17) _ = _
      simp only [Act.put, List.setIfInBounds_toArray, List.set_cons_zero, List.set_cons_succ, i64_w, i32_w]
      rfl
     iterate 2 (refine stepPu (v := ?_) rfl rfl (any_of HT_.out q8_) (fun _ _ _ h => h) (Or.inl ⟨by rfl, ?_⟩) (a' := ?_) ?_ ?_; rotate_left; (· intro w'; go_simp; with_reducible rfl); rotate_left; (· (simp only [Act.put, List.setIfInBounds_toArray, List.set_cons_zero, List.set_cons_succ, i64_w, i32_w]; rfl)))
     iterate 3 (refine stepPu (v := ?_) rfl rfl (any_of HT_.out q8_) (fun _ _ _ h => h) (Or.inl ⟨by rfl, ?_⟩) (a' := ?_) ?_ ?_; rotate_left; (· intro w'; go_simp; with_reducible rfl); rotate_left; (· (simp only [Act.put, List.setIfInBounds_toArray, List.set_cons_zero, List.set_cons_succ, i64_w, i32_w]; rfl)))
     iterate 12 (refine stepPu (v := undef) rfl rfl (any_of HT_.out q8_) (fun _ _ _ h => h) (Or.inr ⟨by rfl, rfl⟩) (a' := ?_) ?_ ?_; rotate_left; (· (simp only [Act.put, List.setIfInBounds_toArray, List.set_cons_zero, List.set_cons_succ, i64_w, i32_w]; rfl)))
     iterate 2 (refine stepPu (v := ?_) rfl rfl (any_of HT_.out q8_) (fun _ _ _ h => h) (Or.inl ⟨by rfl, ?_⟩) (a' := ?_) ?_ ?_; rotate_left; (· intro w'; go_simp; with_reducible rfl); rotate_left; (· (simp only [Act.put, List.setIfInBounds_toArray, List.set_cons_zero, List.set_cons_succ, i64_w, i32_w]; rfl)))
     refine done_ (done_of HT_.out q8_) ?_
     go_wp2_with fail
     refine ⟨⟨a + 1, by rw [e1.out], HLT.out, ⟨HWW.out _ H8.out⟩, ⟨?_⟩⟩, by rw [e1.out]; exact meas_r a N HLT.out⟩
     intro j hj
     obtain rfl : j = a := by have := HA0.out; omega
     have hx := HX.out
     rw [HA0.out] at hx ⊢
     rw [okAt_0 hx]; exact HM.out
    ·obtain ⟨b, hab⟩ : ∃ b, a = b + 1 := ⟨a - 1, by omega⟩
     have HAB := Aside0.mk hab
     have h5 : decide ((a : Int) > 0) = true := decide_eq_true (by omega)
     have h6 : decide ((0 : Int) < (a : Int)) = true := h5
     have h7 : decide (0 < a) = true := decide_eq_true (by omega)
     have e2 : wrap64 ((a : Int) - 1) = (b : Int) := by have := dec_r b N (by rw [← hab]; exact HLT.out) HN.out; rw [hab]; exact this
     have hb2 : (b : Int) < (N : Int) := by have := HLT.out; omega
     have hb0 : (0 : Int) ≤ (b : Int) := Int.natCast_nonneg b
     clear hab ha0
     obtain ⟨ad4, he4, q0, q1, q2, q3⟩ := at_T57 HC.out (b : Int) hb0 hb2
     injection he4 with he4
     subst he4
     rw [Int.toNat_natCast] at q0 q1 q2 q3
     obtain ⟨y, hy⟩ : ∃ y, rd_T57 l (b : Int) = y := ⟨_, rfl⟩
     rw [hy] at q0 q1 q2 q3
     have HY := Aside0.mk (show key57 l b = y.f0 from congrArg (·.f0) hy)
     have HQC := Aside0.mk (fun W' (hb : Below (wr.heap.size + 1) (wr.alloc (.cells #[.int .i64 x.f0.f0, .int .i64 x.f0.f1, .int .i64 x.f0.f2, .int .i64 x.f1] 57)) W') => show W'.cell? ⟨wr.heap.size, 0, none⟩ = some (.int .i64 x.f0.f0) ∧ W'.cell? ⟨wr.heap.size, 1, none⟩ = some (.int .i64 x.f0.f1) ∧ W'.cell? ⟨wr.heap.size, 2, none⟩ = some (.int .i64 x.f0.f2) ∧ W'.cell? ⟨wr.heap.size, 3, none⟩ = some (.int .i64 x.f1) ∧ W'.cell? (ad.add (b * 4)) = some (.int .i64 y.f0.f0) ∧ W'.cell? ⟨(ad.add (b * 4)).block, (ad.add (b * 4)).off + 1, none⟩ = some (.int .i64 y.f0.f1) ∧ W'.cell? ⟨(ad.add (b * 4)).block, (ad.add (b * 4)).off + 2, none⟩ = some (.int .i64 y.f0.f2) ∧ W'.cell? ⟨(ad.add (b * 4)).block, (ad.add (b * 4)).off + 3, none⟩ = some (.int .i64 y.f1) from by
      have hbb := HBB.out W' hb
      have hlt := block_lt_of_cell q0
      obtain ⟨p0, p1, p2, p3⟩ := HPC.out W' hb
      exact ⟨p0, p1, p2, p3, (hbb.cell (p := ad.add (b * 4)) hlt).trans q0, (hbb.cell (p := ⟨(ad.add (b * 4)).block, _, none⟩) hlt).trans q1, (hbb.cell (p := ⟨(ad.add (b * 4)).block, _, none⟩) hlt).trans q2, (hbb.cell (p := ⟨(ad.add (b * 4)).block, _, none⟩) hlt).trans q3⟩)
     obtain ⟨b2, hb⟩ : ∃ b2, lessK y.f0 x.f0 = b2 := ⟨_, rfl⟩
     have HM2 := Aside0.mk hb
     clear hb hy q0 q1 q2 q3
     go_wp2_with fail
     refine stepStart (fun w' => w'.cell? ⟨wr.heap.size, 0, none⟩ = some (.int .i64 x.f0.f0) ∧ w'.cell? ⟨wr.heap.size, 1, none⟩ = some (.int .i64 x.f0.f1) ∧ w'.cell? ⟨wr.heap.size, 2, none⟩ = some (.int .i64 x.f0.f2) ∧ w'.cell? ⟨wr.heap.size, 3, none⟩ = some (.int .i64 x.f1) ∧ w'.cell? (ad.add (b * 4)) = some (.int .i64 y.f0.f0) ∧ w'.cell? ⟨(ad.add (b * 4)).block, (ad.add (b * 4)).off + 1, none⟩ = some (.int .i64 y.f0.f1) ∧ w'.cell? ⟨(ad.add (b * 4)).block, (ad.add (b * 4)).off + 2, none⟩ = some (.int .i64 y.f0.f2) ∧ w'.cell? ⟨(ad.add (b * 4)).block, (ad.add (b * 4)).off + 3, none⟩ = some (.int .i64 y.f1)) 23 [0, 1, 2, 3, 4, 5, 6, 7, 8, 9, 10, 11, 12, 13, 14, 16, 17, 15, 18, 19, 20, 21, 22] rises57_tab rises57_bits q8_ rfl (HQC.out _ HW.out.drew) (fun HT_ HW_ hHeld => ?_)
     (refine stepPu (v := ?_) rfl rfl (any_of HT_.out q8_) (fun _ _ _ h => h) (Or.inl ⟨by rfl, ?_⟩) (a' := ?_) ?_ ?_; rotate_left; (· intro w'; go_simp; with_reducible rfl); rotate_left; (· (simp only [Act.put, List.setIfInBounds_toArray, List.set_cons_zero, List.set_cons_succ, i64_w, i32_w]; rfl)))
     (refine stepLd (v := ?_) rfl rfl (take_ofW HT_.out HW_.out q8_) (fun _ _ _ h => h) (Or.inl ⟨by rfl, ?_⟩) hHeld (a' := ?_) ?_ ?_; rotate_left; (· rintro w' ⟨s0, s1, s2, s3, s4, s5, s6, s7⟩; go_simp; with_reducible rfl); rotate_left; (· (simp only [Act.put, List.setIfInBounds_toArray, List.set_cons_zero, List.set_cons_succ, i64_w, i32_w]; rfl)))
     refine stepOne rfl rfl (one_of HT_.out q8_) q210_ (fun K hK => ?_)
     refine goesV_ Try.func30 q8_ rfl #[.agg #[.int .i64 x.f0.f0, .int .i64 x.f0.f1, .int .i64 x.f0.f2, .int .i64 x.f1]] (by rfl) rfl rfl q95_ ?_
     with_reducible refine (node_kidKey.calls x.f0.f0 x.f0.f1 x.f0.f2 x.f1 x.f0.f0 x.f0.f1 x.f0.f2 _ rfl).mono ?_
     rintro e w7 ⟨rfl, hb⟩
     refine ⟨_, rfl, ?_⟩
     have H7 := Aside0.mk (below_more HW.out.drew hb)
     clear hb
     refine hK.out _ _ (HQC.out _ H7.out) (fun hHeld => ?_)
     clear hK K
     refine norm_ (a' := ?_) ?_ ?_
     rotate_left
     ·show Act.put _ (some 16) _ = _
      simp only [Act.put, List.setIfInBounds_toArray, List.set_cons_zero, List.set_cons_succ, i64_w, i32_w]
      rfl
     refine stepOne rfl rfl (one_of HT_.out q8_) q210_ (fun K hK => ?_)
     refine goes_ Try.func51 q8_ rfl #[.agg #[.int .i64 x.f0.f0, .int .i64 x.f0.f1, .int .i64 x.f0.f2]] (by rfl) rfl rfl q95_ ?_
     with_reducible refine (key_May.calls _ _ _ _ _ ((MayK x.f0).trans (congrArg some HM.out))).mono ?_
     rintro e w8 ⟨rfl, hb⟩
     refine ⟨_, rfl, ?_⟩
     have H8 := Aside0.mk (below_more H7.out hb)
     clear hb
     refine hK.out _ _ (HQC.out _ H8.out) (fun hHeld => ?_)
     clear hK K
     refine norm_ (a' := ?_) ?_ ?_
     rotate_left
     ·show Act.put _ (some 17) _ = _
      simp only [Act.put, List.setIfInBounds_toArray, List.set_cons_zero, List.set_cons_succ, i64_w, i32_w]
      rfl
     iterate 2 (refine stepPu (v := ?_) rfl rfl (any_of HT_.out q8_) (fun _ _ _ h => h) (Or.inl ⟨by rfl, ?_⟩) (a' := ?_) ?_ ?_; rotate_left; (· intro w'; go_simp; with_reducible rfl); rotate_left; (· (simp only [Act.put, List.setIfInBounds_toArray, List.set_cons_zero, List.set_cons_succ, i64_w, i32_w]; rfl)))
     iterate 8 (refine stepPu (v := ?_) rfl rfl (any_of HT_.out q8_) (fun _ _ _ h => h) (Or.inl ⟨by rfl, ?_⟩) (a' := ?_) ?_ ?_; rotate_left; (· intro w'; go_simp; with_reducible rfl); rotate_left; (· (simp only [Act.put, List.setIfInBounds_toArray, List.set_cons_zero, List.set_cons_succ, i64_w, i32_w]; rfl)))
     (refine stepLd (v := ?_) rfl rfl (take_ofW HT_.out HW_.out q8_) (fun _ _ _ h => h) (Or.inl ⟨by rfl, ?_⟩) hHeld (a' := ?_) ?_ ?_; rotate_left; (· rintro w' ⟨s0, s1, s2, s3, s4, s5, s6, s7⟩; go_simp; with_reducible rfl); rotate_left; (· (simp only [Act.put, List.setIfInBounds_toArray, List.set_cons_zero, List.set_cons_succ, i64_w, i32_w]; rfl)))
     (refine stepPu (v := ?_) rfl rfl (any_of HT_.out q8_) (fun _ _ _ h => h) (Or.inl ⟨by rfl, ?_⟩) (a' := ?_) ?_ ?_; rotate_left; (· intro w'; go_simp; with_reducible rfl); rotate_left; (· (simp only [Act.put, List.setIfInBounds_toArray, List.set_cons_zero, List.set_cons_succ, i64_w, i32_w]; rfl)))
     (refine stepLd (v := ?_) rfl rfl (take_ofW HT_.out HW_.out q8_) (fun _ _ _ h => h) (Or.inl ⟨by rfl, ?_⟩) hHeld (a' := ?_) ?_ ?_; rotate_left; (· rintro w' ⟨s0, s1, s2, s3, s4, s5, s6, s7⟩; go_simp; with_reducible rfl); rotate_left; (· (simp only [Act.put, List.setIfInBounds_toArray, List.set_cons_zero, List.set_cons_succ, i64_w, i32_w]; rfl)))
     refine stepOne rfl rfl (one_of HT_.out q8_) q210_ (fun K hK => ?_)
     refine goesV_ Try.func30 q8_ rfl #[.agg #[.int .i64 y.f0.f0, .int .i64 y.f0.f1, .int .i64 y.f0.f2, .int .i64 y.f1]] (by rfl) rfl rfl q95_ ?_
     with_reducible refine (node_kidKey.calls y.f0.f0 y.f0.f1 y.f0.f2 y.f1 y.f0.f0 y.f0.f1 y.f0.f2 _ rfl).mono ?_
     rintro e w9 ⟨rfl, hb⟩
     refine ⟨_, rfl, ?_⟩
     have H9 := Aside0.mk (below_more H8.out hb)
     clear hb
     refine hK.out _ _ (HQC.out _ H9.out) (fun hHeld => ?_)
     clear hK K
     refine norm_ (a' := ?_) ?_ ?_
     rotate_left
     ·show Act.put _ (some 29) _ = _
      simp only [Act.put, List.setIfInBounds_toArray, List.set_cons_zero, List.set_cons_succ, i64_w, i32_w]
      rfl
     refine stepOne rfl rfl (one_of HT_.out q8_) q210_ (fun K hK => ?_)
     refine goesV_ Try.func30 q8_ rfl #[.agg #[.int .i64 x.f0.f0, .int .i64 x.f0.f1, .int .i64 x.f0.f2, .int .i64 x.f1]] (by rfl) rfl rfl q95_ ?_
     with_reducible refine (node_kidKey.calls x.f0.f0 x.f0.f1 x.f0.f2 x.f1 x.f0.f0 x.f0.f1 x.f0.f2 _ rfl).mono ?_
     rintro e w10 ⟨rfl, hb⟩
     refine ⟨_, rfl, ?_⟩
     have H10 := Aside0.mk (below_more H9.out hb)
     clear hb
     refine hK.out _ _ (HQC.out _ H10.out) (fun hHeld => ?_)
     clear hK K
     refine norm_ (a' := ?_) ?_ ?_
     rotate_left
     ·show Act.put _ (some 32) _ = _
      simp only [Act.put, List.setIfInBounds_toArray, List.set_cons_zero, List.set_cons_succ, i64_w, i32_w]
      rfl
     refine stepOne rfl rfl (one_of HT_.out q8_) q210_ (fun K hK => ?_)
     refine goes_ Try.func40 q8_ rfl #[.agg #[.int .i64 y.f0.f0, .int .i64 y.f0.f1, .int .i64 y.f0.f2], .agg #[.int .i64 x.f0.f0, .int .i64 x.f0.f1, .int .i64 x.f0.f2]] (by rfl) rfl rfl q95_ ?_
     with_reducible refine (key_Less.calls 4 _ _ _ _ _ _ _ _ ((LessK y.f0 x.f0).trans (congrArg some HM2.out))).mono ?_
     rintro e w11 ⟨rfl, hb⟩
     refine ⟨_, rfl, ?_⟩
     have H11 := Aside0.mk (below_more H10.out hb)
     clear hb
     refine hK.out _ _ (HQC.out _ H11.out) (fun hHeld => ?_)
     clear hK K
     refine norm_ (a' := ?_) ?_ ?_
     rotate_left
     ·show Act.put _ (some 33) _ = _
      simp only [Act.put, List.setIfInBounds_toArray, List.set_cons_zero, List.set_cons_succ, i64_w, i32_w]
      rfl
     iterate 3 (refine stepPu (v := ?_) rfl rfl (any_of HT_.out q8_) (fun _ _ _ h => h) (Or.inl ⟨by rfl, ?_⟩) (a' := ?_) ?_ ?_; rotate_left; (· intro w'; go_simp; with_reducible rfl); rotate_left; (· (simp only [Act.put, List.setIfInBounds_toArray, List.set_cons_zero, List.set_cons_succ, i64_w, i32_w]; rfl)))
     refine done_ (done_of HT_.out q8_) ?_
     cases b2 with
     | false =>
      go_wp2
      go_ret
      rw [risesBy_no HLT.out (by have hx := HX.out; rw [HAB.out] at hx ⊢; exact (okAt_s hx HY.out HM.out).trans HM2.out)]
      exact ⟨rfl, HWW.out _ H11.out⟩
     | true =>
      go_wp2_with fail
      refine ⟨⟨a + 1, by rw [e1.out], HLT.out, ⟨HWW.out _ H11.out⟩, ⟨?_⟩⟩, by rw [e1.out]; exact meas_r a N HLT.out⟩
      intro j hj
      rcases Nat.lt_succ_iff_lt_or_eq.1 hj with h | h
      ·exact HP.out j h
      ·have hx := HX.out; rw [HAB.out] at hx; rw [h, HAB.out, okAt_s hx HY.out HM.out]; exact HM2.out
  ·have h2 : ¬ (a : Int) < (N : Int) := fun h => hlt (Int.ofNat_lt.1 h)
   have h1 : decide ((a : Int) < (N : Int)) = false := decide_eq_false h2
   obtain rfl : a = N := Nat.le_antisymm ha (Nat.le_of_not_lt hlt)
   clear hlt ha
   go_wp2
   go_ret
   rw [risesBy_yes HP.out]
   exact ⟨rfl, HB.out⟩
/-! ### end of GIVEN -/
end Go.Proofs.Ytcjnknpbikfimaa.P
