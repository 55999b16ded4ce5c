/- Functions and contracts, written by a program (mkprint.py, a wrapper of ours around the print); texts between GIVEN marks are ours. -/
import Derived.Test.YtcjnknpbikfimaaPx0
import Derived.Test.YtcjnknpbikfimaaPx3
import Derived.Test.YtcjnknpbikfimaaPx4
namespace Go.Proofs.Ytcjnknpbikfimaa.P
open Go.RowKit Go.Proofs.YtcjnknpbikfimaaW.PrintWords Go.Proofs.YtcjnknpbikfimaaW.PrintLast Go.Proofs.YtcjnknpbikfimaaW.PrintMore
attribute [local go_sem] max2_int min2_int max_two min_two max_three min_three max_four min_four   -- for this text's walks alone
set_option linter.unusedVariables false
set_option linter.unusedSimpArgs false

/-! ### GIVEN api_Item_27: function 27 -/
/-- One key stands ahead of another. -/
def lessK (a b : S35) : Bool := decide (a.f0 < b.f0 ∨ a.f0 = b.f0 ∧ (a.f1 < b.f1 ∨ a.f1 = b.f1 ∧ a.f2 < b.f2))
theorem CompareK (a b : Int) : cmp_Compare_int.f a b = some (if a < b then -1 else if a > b then 1 else 0) := by
 unfold cmp_Compare_int.f cmp_isNaN_int.f
 simp only [Option.bind_some, bne_self_eq_false]
 by_cases h : a < b
 ·simp [h]
 ·by_cases h2 : a > b
  ·simp [h, h2]
  ·simp [h, h2]
theorem OrK (x y z : Int) : cmp_Or_int.f 4 [x, y, z] = some (if x = 0 then (if y = 0 then z else y) else x) := by
 have r0 : rd [x, y, z] 0 = x := rfl
 have r1 : rd [x, y, z] 1 = y := rfl
 have r2 : rd [x, y, z] 2 = z := rfl
 have s0 : wrap64 (0 + 1) = 1 := by decide +kernel
 have s1 : wrap64 (1 + 1) = 2 := by decide +kernel
 have s2 : wrap64 (2 + 1) = 3 := by decide +kernel
 have hl : (([x, y, z] : List Int).length : Int) = 3 := rfl
 unfold cmp_Or_int.f
 simp only [cmp_Or_int.l0, hl, r0, s0, r1, s1, r2, s2]
 by_cases h : x = 0
 ·by_cases h1 : y = 0
  ·by_cases h2 : z = 0
   ·simp [h, h1, h2]
   ·simp [h, h1, h2]
  ·simp [h, h1]
 ·simp [h]
theorem LessK (a b : S35) : key_Less.f 4 a.f0 a.f1 a.f2 b.f0 b.f1 b.f2 = some (lessK a b) := by
 obtain ⟨a0, a1, a2⟩ := a
 obtain ⟨b0, b1, b2⟩ := b
 unfold key_Less.f lessK
 simp only [CompareK, Option.bind_some, OrK]
 congr 1
 rw [decide_eq_decide]
 rcases Int.lt_trichotomy a0 b0 with h | h | h
 ·simp [h, Int.lt_irrefl]
 ·subst h
  rcases Int.lt_trichotomy a1 b1 with h | h | h
  ·simp [h, Int.lt_irrefl]
  ·subst h
   rcases Int.lt_trichotomy a2 b2 with h | h | h
   ·simp [h, Int.lt_irrefl]
   ·subst h; simp [Int.lt_irrefl]
   ·simp [Int.lt_irrefl, h, show ¬ a2 < b2 from by omega]
  ·simp [Int.lt_irrefl, h, show ¬ a1 < b1 from by omega, show ¬ a1 = b1 from by omega]
 ·simp [Int.lt_irrefl, h, show ¬ a0 < b0 from by omega, show ¬ a0 = b0 from by omega]
/-- A key may be. -/
def mayK (a : S35) : Bool := decide (0 ≤ a.f0 ∧ a.f0 ≤ 2147483647 ∧ 0 ≤ a.f1 ∧ a.f1 ≤ 255 ∧ 0 ≤ a.f2 ∧ a.f2 ≤ 2147483647)
theorem MayK (a : S35) : key_May.f a.f0 a.f1 a.f2 = some (mayK a) := by
 obtain ⟨a0, a1, a2⟩ := a
 unfold key_May.f key_end.f mayK
 simp only [Option.bind_some]
 by_cases h0 : a0 ≥ 0 <;> by_cases h1 : a1 ≥ 0 <;> by_cases h2 : a2 ≥ 0 <;> by_cases h3 : a0 ≤ 2147483647 <;> by_cases h4 : a1 ≤ 255 <;> by_cases h5 : a2 ≤ 2147483647 <;> simp [h0, h1, h2, h3, h4, h5] <;> omega
def okAt (key : Nat → S35) (j : Nat) : Bool := mayK (key j) && (decide (j = 0) || lessK (key (j - 1)) (key j))
/-- Keys may be, and rise. -/
def risesBy (n : Nat) (key : Nat → S35) : Bool := decide (∀ j, j < n → okAt key j = true)
theorem risesBy_no {n a : Nat} {key : Nat → S35} (ha : a < n) (h : okAt key a = false) : risesBy n key = false := decide_eq_false (fun q => by rw [q a ha] at h; cases h)
theorem risesBy_yes {n : Nat} {key : Nat → S35} (h : ∀ j, j < n → okAt key j = true) : risesBy n key = true := decide_eq_true h
theorem okAt_0 {key : Nat → S35} {x : S35} (hx : key 0 = x) : okAt key 0 = mayK x := by unfold okAt; rw [hx]; simp
theorem okAt_may {key : Nat → S35} {a : Nat} {x : S35} (hx : key a = x) (h : mayK x = false) : okAt key a = false := by unfold okAt; rw [hx, h]; rfl
theorem okAt_s {key : Nat → S35} {b : Nat} {x y : S35} (hx : key (b + 1) = x) (hy : key b = y) (h : mayK x = true) : okAt key (b + 1) = lessK y x := by unfold okAt; rw [hx, h, show b + 1 - 1 = b from rfl, hy]; simp
theorem inc_r (a N : Nat) (h1 : a < N) (h2 : N ≤ 1000) : wrap64 ((a : Int) + 1) = ((a + 1 : Nat) : Int) := by unfold wrap64; omega
theorem dec_r (b N : Nat) (h1 : b + 1 < N) (h2 : N ≤ 1000) : wrap64 (((b + 1 : Nat) : Int) - 1) = (b : Int) := by unfold wrap64; omega
theorem meas_r (a n : Nat) (h : a < n) : n - (intOf (.int .i64 ((a + 1 : Nat) : Int))).toNat < n - (intOf (.int .i64 (a : Int))).toNat := by show n - ((a + 1 : Nat) : Int).toNat < n - (a : Int).toNat; omega
theorem below_more {wr b c : World} {o : Obj} (h : Below (wr.heap.size + 1) (wr.alloc o) b) (k : Below b.heap.size b c) : Below (wr.heap.size + 1) (wr.alloc o) c := below_then h (by have := h.size; simpa using this) k
/-- Keys of cambium/api.Item that may be, and rise. -/
def key52 (l : List S52) (j : Nat) : S35 := (l.getD j z52).f0
def rises52_T : Bool × List (List Nat × List Nat) := (true, [([], []), ([], []), ([0, 1], [0, 1]), ([2, 2], [2]), ([3], [3]), ([4, 3], [4]), ([5], [5]), ([6, 5], [5, 6]), ([7, 5, 5], [5, 7]), ([8], [8]), ([8], [8]), ([8], [8]), ([11, 8], [8, 11]), ([10, 12, 8], [8, 10, 12]), ([13, 8], [8, 13]), ([9, 14, 8, 8], [8, 9, 14]), ([8], [8]), ([8], [8]), ([16, 17, 15, 8], [8, 16, 17]), ([15, 18, 18, 8], [8, 15, 18]), ([19, 8], [8, 19]), ([8, 20, 5], [5, 8, 20]), ([5, 21], [5, 21])])
def rises52_B : List Nat := [0, 0, 3, 7, 15, 31, 63, 127, 255, 511, 511, 511, 2559, 7679, 15871, 32767, 511, 511, 262143, 524287, 1048575, 2097151, 4194303]
theorem rises52_tab : rtab .any (opsOf Try.f27 4) = rises52_T := by kernel_rfl
theorem rises52_bits : waitsOk rises52_T.2 rises52_B = true := by kernel_rfl
def api_Item_27.f (l0 : List S52) : Option Bool := if l0.length ≤ 1000 then some (risesBy l0.length (key52 l0)) else none
set_option maxHeartbeats 4000000 in
set_option maxRecDepth 100000 in
theorem api_Item_27.calls (A0 : Option Addr) (c0 : Nat) (l0 : List (S52)) (r : Bool) (w : World) (hr0 : Kd.C k52 w A0 l0.length l0) (hc0 : l0.length ≤ c0) (h : api_Item_27.f l0 = some r) :
  Calls Try.prog 27 #[.slice A0 l0.length c0, .func (.func 28) #[] #[]] w fun e w' => e = .returned (.bool r) ∧ Below w.heap.size w w' := by
 rw [api_Item_27.f] at h
 have hN : l0.length ≤ 1000 := by
  by_cases hq : l0.length ≤ 1000
  ·exact hq
  ·rw [if_neg hq] at h; cases h
 rw [if_pos hN] at h
 obtain rfl := Option.some.inj h
 clear h hc0
 obtain ⟨l, rfl⟩ : ∃ l, l = l0 := ⟨_, rfl⟩
 obtain ⟨N, hNe⟩ : ∃ N, l.length = N := ⟨_, rfl⟩
 rw [hNe] at hr0 hN ⊢
 have HR := Aside0.mk hr0
 have HN := Aside0.mk hN
 have HB0 := Aside0.mk (Below.refl w.heap.size w)
 clear hr0 hN hNe
 go_enter Try.func27, Try.ntmps27
 go_wp2_with fail
 go_loopw [5, 6, 9] (fun _ _ i wr => ∃ a : Nat, i = .int .i64 a ∧ a ≤ N ∧ Aside0 (Below w.heap.size w wr) ∧ Aside0 (∀ j, j < a → okAt (key52 l) j = true)) (fun _ _ i _ => N - (intOf i).toNat)
 case atStart => exact ⟨0, rfl, Nat.zero_le _, HB0, ⟨fun j hj => absurd hj (Nat.not_lt_zero _)⟩⟩
 case round =>
  clear HB0
  obtain ⟨a, rfl, ha, HB, HP⟩ := hrel
  rename_i wr
  by_cases hlt : a < N
  ·have h2 : (a : Int) < (N : Int) := Int.ofNat_lt.2 hlt
   have h1 : decide ((a : Int) < (N : Int)) = true := decide_eq_true h2
   have HC := Aside0.mk (Kd.C_below HR.out HB.out)
   obtain ⟨ad, A3, c3, rfl, k0, k1, k2, k3, v0, v1⟩ := at_T52 HC.out (a : Int) (Int.natCast_nonneg a) h2
   rw [Int.toNat_natCast] at k0 k1 k2 k3
   have HLT := Aside0.mk hlt
   clear ha
   obtain ⟨x, hx⟩ : ∃ x, rd_T52 l (a : Int) = x := ⟨_, rfl⟩
   rw [hx] at k0 k1 k2 k3 v0 v1
   have HX := Aside0.mk (show key52 l a = x.f0 from congrArg (·.f0) hx)
   have HV := Aside0.mk v1
   have HV1 := Aside0.mk v0
   clear v0 v1
   clear hx
   have HW := Aside0.mk (Below.refl (wr.heap.size + 1) (wr.alloc (.cells #[.int .i64 x.f0.f0, .int .i64 x.f0.f1, .int .i64 x.f0.f2, .slice A3 x.f1.length c3] 52)))
   have HBB := Aside0.mk (fun W' (hb : Below (wr.heap.size + 1) (wr.alloc (.cells #[.int .i64 x.f0.f0, .int .i64 x.f0.f1, .int .i64 x.f0.f2, .slice A3 x.f1.length c3] 52)) W') => (((Below.refl wr.heap.size wr).alloc (Nat.le_refl _) (.cells #[.int .i64 x.f0.f0, .int .i64 x.f0.f1, .int .i64 x.f0.f2, .slice A3 x.f1.length c3] 52)).trans (hb.mono (Nat.le_succ _)) : Below wr.heap.size wr W'))
   have HWW := Aside0.mk (fun W' (hb : Below (wr.heap.size + 1) (wr.alloc (.cells #[.int .i64 x.f0.f0, .int .i64 x.f0.f1, .int .i64 x.f0.f2, .slice A3 x.f1.length c3] 52)) W') => below_step HB.out (HBB.out W' hb))
   have HPC := Aside0.mk (fun W' (hb : Below (wr.heap.size + 1) (wr.alloc (.cells #[.int .i64 x.f0.f0, .int .i64 x.f0.f1, .int .i64 x.f0.f2, .slice A3 x.f1.length c3] 52)) W') => show W'.cell? ⟨wr.heap.size, 0, none⟩ = some (.int .i64 x.f0.f0) ∧ W'.cell? ⟨wr.heap.size, 1, none⟩ = some (.int .i64 x.f0.f1) ∧ W'.cell? ⟨wr.heap.size, 2, none⟩ = some (.int .i64 x.f0.f2) ∧ W'.cell? ⟨wr.heap.size, 3, none⟩ = some (.slice A3 x.f1.length c3) from
    have hbl := (hb.block wr.heap.size (Nat.lt_succ_self _)).trans (blk_new wr (.cells #[.int .i64 x.f0.f0, .int .i64 x.f0.f1, .int .i64 x.f0.f2, .slice A3 x.f1.length c3] 52))
    ⟨blk_cell hbl 0, blk_cell hbl 1, blk_cell hbl 2, blk_cell hbl 3⟩)
   have e1 := Aside0.mk (inc_r a N HLT.out HN.out)
   obtain ⟨b, hb⟩ : ∃ b, mayK x.f0 = b := ⟨_, rfl⟩
   have HM := Aside0.mk hb
   clear hb
   cases b with
   | false =>
    go_wp2_with fail
    refine stepStart (fun w' => w'.cell? ⟨wr.heap.size, 0, none⟩ = some (.int .i64 x.f0.f0) ∧ w'.cell? ⟨wr.heap.size, 1, none⟩ = some (.int .i64 x.f0.f1) ∧ w'.cell? ⟨wr.heap.size, 2, none⟩ = some (.int .i64 x.f0.f2) ∧ w'.cell? ⟨wr.heap.size, 3, none⟩ = some (.slice A3 x.f1.length c3)) 23 [0, 1, 2, 3, 4, 5, 6, 7, 8, 9, 10, 11, 12, 13, 14, 16, 17, 15, 18, 19, 20, 21, 22] rises52_tab rises52_bits q8_ rfl (HPC.out _ HW.out.drew) (fun HT_ HW_ hHeld => ?_)
    (refine stepPu (v := ?_) rfl rfl (any_of HT_.out q8_) (fun _ _ _ h => h) (Or.inl ⟨by rfl, ?_⟩) (a' := ?_) ?_ ?_; rotate_left; (· intro w'; go_simp; with_reducible rfl); rotate_left; (· (simp only [Act.put, List.setIfInBounds_toArray, List.set_cons_zero, List.set_cons_succ, i64_w, i32_w]; rfl)))
    (refine stepLd (v := ?_) rfl rfl (take_ofW HT_.out HW_.out q8_) (fun _ _ _ h => h) (Or.inl ⟨by rfl, ?_⟩) hHeld (a' := ?_) ?_ ?_; rotate_left; (· rintro w' ⟨s0, s1, s2, s3⟩; go_simp; with_reducible rfl); rotate_left; (· (simp only [Act.put, List.setIfInBounds_toArray, List.set_cons_zero, List.set_cons_succ, i64_w, i32_w]; rfl)))
    refine stepOne rfl rfl (one_of HT_.out q8_) q210_ (fun K hK => ?_)
    refine goesV_ Try.func28 q8_ rfl #[.agg #[.int .i64 x.f0.f0, .int .i64 x.f0.f1, .int .i64 x.f0.f2, .slice A3 x.f1.length c3]] (by rfl) rfl rfl q95_ ?_
    with_reducible refine (node_itemKey.calls x.f0.f0 x.f0.f1 x.f0.f2 A3 c3 x.f1 x.f0.f0 x.f0.f1 x.f0.f2 _ (Kd.C_below HV.out (HBB.out _ (HW.out.drew))) HV1.out rfl).mono ?_
    rintro e w7 ⟨rfl, hb⟩
    refine ⟨_, rfl, ?_⟩
    have H7 := Aside0.mk (below_more HW.out.drew hb)
    clear hb
    refine hK.out _ _ (HPC.out _ H7.out) (fun hHeld => ?_)
    clear hK K
    refine norm_ (a' := ?_) ?_ ?_
    rotate_left
    ·show Act.put _ (some 16) _ = _
     simp only [Act.put, List.setIfInBounds_toArray, List.set_cons_zero, List.set_cons_succ, i64_w, i32_w]
     rfl
    refine stepOne rfl rfl (one_of HT_.out q8_) q210_ (fun K hK => ?_)
    refine goes_ Try.func51 q8_ rfl #[.agg #[.int .i64 x.f0.f0, .int .i64 x.f0.f1, .int .i64 x.f0.f2]] (by rfl) rfl rfl q95_ ?_
    with_reducible refine (key_May.calls _ _ _ _ _ ((MayK x.f0).trans (congrArg some HM.out))).mono ?_
    rintro e w8 ⟨rfl, hb⟩
    refine ⟨_, rfl, ?_⟩
    have H8 := Aside0.mk (below_more H7.out hb)
    clear hb
    refine hK.out _ _ (HPC.out _ H8.out) (fun hHeld => ?_)
    clear hK K
    refine norm_ (a' := ?_) ?_ ?_
    rotate_left
    ·show Act.put _ (some 17) _ = _
     simp only [Act.put, List.setIfInBounds_toArray, List.set_cons_zero, List.set_cons_succ, i64_w, i32_w]
     rfl
    iterate 2 (refine stepPu (v := ?_) rfl rfl (any_of HT_.out q8_) (fun _ _ _ h => h) (Or.inl ⟨by rfl, ?_⟩) (a' := ?_) ?_ ?_; rotate_left; (· intro w'; go_simp; with_reducible rfl); rotate_left; (· (simp only [Act.put, List.setIfInBounds_toArray, List.set_cons_zero, List.set_cons_succ, i64_w, i32_w]; rfl)))
    iterate 16 (refine stepPu (v := undef) rfl rfl (any_of HT_.out q8_) (fun _ _ _ h => h) (Or.inr ⟨by rfl, rfl⟩) (a' := ?_) ?_ ?_; rotate_left; (· (simp only [Act.put, List.setIfInBounds_toArray, List.set_cons_zero, List.set_cons_succ, i64_w, i32_w]; rfl)))
    (refine stepPu (v := ?_) rfl rfl (any_of HT_.out q8_) (fun _ _ _ h => h) (Or.inl ⟨by rfl, ?_⟩) (a' := ?_) ?_ ?_; rotate_left; (· intro w'; go_simp; with_reducible rfl); rotate_left; (· (simp only [Act.put, List.setIfInBounds_toArray, List.set_cons_zero, List.set_cons_succ, i64_w, i32_w]; rfl)))
    refine done_ (done_of HT_.out q8_) ?_
    go_wp2
    go_ret
    rw [risesBy_no HLT.out (okAt_may HX.out HM.out)]
    exact ⟨rfl, HWW.out _ H8.out⟩
   | true =>
    by_cases ha0 : a = 0
    ·have HA0 := Aside0.mk ha0
     have h5 : decide ((a : Int) > 0) = false := decide_eq_false (by rw [ha0]; decide)
     have h6 : decide ((0 : Int) < (a : Int)) = false := h5
     have h7 : decide (0 < a) = false := decide_eq_false (by rw [ha0]; decide)
     clear ha0
     go_wp2_with fail
     refine stepStart (fun w' => w'.cell? ⟨wr.heap.size, 0, none⟩ = some (.int .i64 x.f0.f0) ∧ w'.cell? ⟨wr.heap.size, 1, none⟩ = some (.int .i64 x.f0.f1) ∧ w'.cell? ⟨wr.heap.size, 2, none⟩ = some (.int .i64 x.f0.f2) ∧ w'.cell? ⟨wr.heap.size, 3, none⟩ = some (.slice A3 x.f1.length c3)) 23 [0, 1, 2, 3, 4, 5, 6, 7, 8, 9, 10, 11, 12, 13, 14, 16, 17, 15, 18, 19, 20, 21, 22] rises52_tab rises52_bits q8_ rfl (HPC.out _ HW.out.drew) (fun HT_ HW_ hHeld => ?_)
     (refine stepPu (v := ?_) rfl rfl (any_of HT_.out q8_) (fun _ _ _ h => h) (Or.inl ⟨by rfl, ?_⟩) (a' := ?_) ?_ ?_; rotate_left; (· intro w'; go_simp; with_reducible rfl); rotate_left; (· (simp only [Act.put, List.setIfInBounds_toArray, List.set_cons_zero, List.set_cons_succ, i64_w, i32_w]; rfl)))
     (refine stepLd (v := ?_) rfl rfl (take_ofW HT_.out HW_.out q8_) (fun _ _ _ h => h) (Or.inl ⟨by rfl, ?_⟩) hHeld (a' := ?_) ?_ ?_; rotate_left; (· rintro w' ⟨s0, s1, s2, s3⟩; go_simp; with_reducible rfl); rotate_left; (· (simp only [Act.put, List.setIfInBounds_toArray, List.set_cons_zero, List.set_cons_succ, i64_w, i32_w]; rfl)))
     refine stepOne rfl rfl (one_of HT_.out q8_) q210_ (fun K hK => ?_)
     refine goesV_ Try.func28 q8_ rfl #[.agg #[.int .i64 x.f0.f0, .int .i64 x.f0.f1, .int .i64 x.f0.f2, .slice A3 x.f1.length c3]] (by rfl) rfl rfl q95_ ?_
     with_reducible refine (node_itemKey.calls x.f0.f0 x.f0.f1 x.f0.f2 A3 c3 x.f1 x.f0.f0 x.f0.f1 x.f0.f2 _ (Kd.C_below HV.out (HBB.out _ (HW.out.drew))) HV1.out rfl).mono ?_
     rintro e w7 ⟨rfl, hb⟩
     refine ⟨_, rfl, ?_⟩
     have H7 := Aside0.mk (below_more HW.out.drew hb)
     clear hb
     refine hK.out _ _ (HPC.out _ H7.out) (fun hHeld => ?_)
     clear hK K
     refine norm_ (a' := ?_) ?_ ?_
     rotate_left
     ·show Act.put _ (some 16) _ = _
      simp only [Act.put, List.setIfInBounds_toArray, List.set_cons_zero, List.set_cons_succ, i64_w, i32_w]
      rfl
     refine stepOne rfl rfl (one_of HT_.out q8_) q210_ (fun K hK => ?_)
     refine goes_ Try.func51 q8_ rfl #[.agg #[.int .i64 x.f0.f0, .int .i64 x.f0.f1, .int .i64 x.f0.f2]] (by rfl) rfl rfl q95_ ?_
     with_reducible refine (key_May.calls _ _ _ _ _ ((MayK x.f0).trans (congrArg some HM.out))).mono ?_
     rintro e w8 ⟨rfl, hb⟩
     refine ⟨_, rfl, ?_⟩
     have H8 := Aside0.mk (below_more H7.out hb)
     clear hb
     refine hK.out _ _ (HPC.out _ H8.out) (fun hHeld => ?_)
     clear hK K
     refine norm_ (a' := ?_) ?_ ?_
     rotate_left
     ·show Act.put _ (some 17) _ = _
      simp only [Act.put, List.setIfInBounds_toArray, List.set_cons_zero, List.set_cons_succ, i64_w, i32_w]
      rfl
     iterate 2 (refine stepPu (v := ?_) rfl rfl (any_of HT_.out q8_) (fun _ _ _ h => h) (Or.inl ⟨by rfl, ?_⟩) (a' := ?_) ?_ ?_; rotate_left; (· intro w'; go_simp; with_reducible rfl); rotate_left; (· (simp only [Act.put, List.setIfInBounds_toArray, List.set_cons_zero, List.set_cons_succ, i64_w, i32_w]; rfl)))
     iterate 3 (refine stepPu (v := ?_) rfl rfl (any_of HT_.out q8_) (fun _ _ _ h => h) (Or.inl ⟨by rfl, ?_⟩) (a' := ?_) ?_ ?_; rotate_left; (· intro w'; go_simp; with_reducible rfl); rotate_left; (· (simp only [Act.put, List.setIfInBounds_toArray, List.set_cons_zero, List.set_cons_succ, i64_w, i32_w]; rfl)))
     iterate 12 (refine stepPu (v := undef) rfl rfl (any_of HT_.out q8_) (fun _ _ _ h => h) (Or.inr ⟨by rfl, rfl⟩) (a' := ?_) ?_ ?_; rotate_left; (· (simp only [Act.put, List.setIfInBounds_toArray, List.set_cons_zero, List.set_cons_succ, i64_w, i32_w]; rfl)))
     iterate 2 (refine stepPu (v := ?_) rfl rfl (any_of HT_.out q8_) (fun _ _ _ h => h) (Or.inl ⟨by rfl, ?_⟩) (a' := ?_) ?_ ?_; rotate_left; (· intro w'; go_simp; with_reducible rfl); rotate_left; (· (simp only [Act.put, List.setIfInBounds_toArray, List.set_cons_zero, List.set_cons_succ, i64_w, i32_w]; rfl)))
     refine done_ (done_of HT_.out q8_) ?_
     go_wp2_with fail
     refine ⟨⟨a + 1, by rw [e1.out], HLT.out, ⟨HWW.out _ H8.out⟩, ⟨?_⟩⟩, by rw [e1.out]; exact meas_r a N HLT.out⟩
     intro j hj
     obtain rfl : j = a := by have := HA0.out; omega
     have hx := HX.out
     rw [HA0.out] at hx ⊢
     rw [okAt_0 hx]; exact HM.out
    ·obtain ⟨b, hab⟩ : ∃ b, a = b + 1 := ⟨a - 1, by omega⟩
     have HAB := Aside0.mk hab
     have h5 : decide ((a : Int) > 0) = true := decide_eq_true (by omega)
     have h6 : decide ((0 : Int) < (a : Int)) = true := h5
     have h7 : decide (0 < a) = true := decide_eq_true (by omega)
     have e2 : wrap64 ((a : Int) - 1) = (b : Int) := by have := dec_r b N (by rw [← hab]; exact HLT.out) HN.out; rw [hab]; exact this
     have hb2 : (b : Int) < (N : Int) := by have := HLT.out; omega
     have hb0 : (0 : Int) ≤ (b : Int) := Int.natCast_nonneg b
     clear hab ha0
     obtain ⟨ad4, A4, c4, he4, q0, q1, q2, q3, u0, u1⟩ := at_T52 HC.out (b : Int) hb0 hb2
     injection he4 with he4
     subst he4
     rw [Int.toNat_natCast] at q0 q1 q2 q3
     obtain ⟨y, hy⟩ : ∃ y, rd_T52 l (b : Int) = y := ⟨_, rfl⟩
     rw [hy] at q0 q1 q2 q3 u0 u1
     have HY := Aside0.mk (show key52 l b = y.f0 from congrArg (·.f0) hy)
     have HU := Aside0.mk u1
     have HU1 := Aside0.mk u0
     clear u0 u1
     have HQC := Aside0.mk (fun W' (hb : Below (wr.heap.size + 1) (wr.alloc (.cells #[.int .i64 x.f0.f0, .int .i64 x.f0.f1, .int .i64 x.f0.f2, .slice A3 x.f1.length c3] 52)) W') => show W'.cell? ⟨wr.heap.size, 0, none⟩ = some (.int .i64 x.f0.f0) ∧ W'.cell? ⟨wr.heap.size, 1, none⟩ = some (.int .i64 x.f0.f1) ∧ W'.cell? ⟨wr.heap.size, 2, none⟩ = some (.int .i64 x.f0.f2) ∧ W'.cell? ⟨wr.heap.size, 3, none⟩ = some (.slice A3 x.f1.length c3) ∧ W'.cell? (ad.add (b * 4)) = some (.int .i64 y.f0.f0) ∧ W'.cell? ⟨(ad.add (b * 4)).block, (ad.add (b * 4)).off + 1, none⟩ = some (.int .i64 y.f0.f1) ∧ W'.cell? ⟨(ad.add (b * 4)).block, (ad.add (b * 4)).off + 2, none⟩ = some (.int .i64 y.f0.f2) ∧ W'.cell? ⟨(ad.add (b * 4)).block, (ad.add (b * 4)).off + 3, none⟩ = some (.slice A4 y.f1.length c4) from by
      have hbb := HBB.out W' hb
      have hlt := block_lt_of_cell q0
      obtain ⟨p0, p1, p2, p3⟩ := HPC.out W' hb
      exact ⟨p0, p1, p2, p3, (hbb.cell (p := ad.add (b * 4)) hlt).trans q0, (hbb.cell (p := ⟨(ad.add (b * 4)).block, _, none⟩) hlt).trans q1, (hbb.cell (p := ⟨(ad.add (b * 4)).block, _, none⟩) hlt).trans q2, (hbb.cell (p := ⟨(ad.add (b * 4)).block, _, none⟩) hlt).trans q3⟩)
     obtain ⟨b2, hb⟩ : ∃ b2, lessK y.f0 x.f0 = b2 := ⟨_, rfl⟩
     have HM2 := Aside0.mk hb
     clear hb hy q0 q1 q2 q3
     go_wp2_with fail
     refine stepStart (fun w' => w'.cell? ⟨wr.heap.size, 0, none⟩ = some (.int .i64 x.f0.f0) ∧ w'.cell? ⟨wr.heap.size, 1, none⟩ = some (.int .i64 x.f0.f1) ∧ w'.cell? ⟨wr.heap.size, 2, none⟩ = some (.int .i64 x.f0.f2) ∧ w'.cell? ⟨wr.heap.size, 3, none⟩ = some (.slice A3 x.f1.length c3) ∧ w'.cell? (ad.add (b * 4)) = some (.int .i64 y.f0.f0) ∧ w'.cell? ⟨(ad.add (b * 4)).block, (ad.add (b * 4)).off + 1, none⟩ = some (.int .i64 y.f0.f1) ∧ w'.cell? ⟨(ad.add (b * 4)).block, (ad.add (b * 4)).off + 2, none⟩ = some (.int .i64 y.f0.f2) ∧ w'.cell? ⟨(ad.add (b * 4)).block, (ad.add (b * 4)).off + 3, none⟩ = some (.slice A4 y.f1.length c4)) 23 [0, 1, 2, 3, 4, 5, 6, 7, 8, 9, 10, 11, 12, 13, 14, 16, 17, 15, 18, 19, 20, 21, 22] rises52_tab rises52_bits q8_ rfl (HQC.out _ HW.out.drew) (fun HT_ HW_ hHeld => ?_)
     (refine stepPu (v := ?_) rfl rfl (any_of HT_.out q8_) (fun _ _ _ h => h) (Or.inl ⟨by rfl, ?_⟩) (a' := ?_) ?_ ?_; rotate_left; (· intro w'; go_simp; with_reducible rfl); rotate_left; (· (simp only [Act.put, List.setIfInBounds_toArray, List.set_cons_zero, List.set_cons_succ, i64_w, i32_w]; rfl)))
     (refine stepLd (v := ?_) rfl rfl (take_ofW HT_.out HW_.out q8_) (fun _ _ _ h => h) (Or.inl ⟨by rfl, ?_⟩) hHeld (a' := ?_) ?_ ?_; rotate_left; (· rintro w' ⟨s0, s1, s2, s3, s4, s5, s6, s7⟩; go_simp; with_reducible rfl); rotate_left; (· (simp only [Act.put, List.setIfInBounds_toArray, List.set_cons_zero, List.set_cons_succ, i64_w, i32_w]; rfl)))
     refine stepOne rfl rfl (one_of HT_.out q8_) q210_ (fun K hK => ?_)
     refine goesV_ Try.func28 q8_ rfl #[.agg #[.int .i64 x.f0.f0, .int .i64 x.f0.f1, .int .i64 x.f0.f2, .slice A3 x.f1.length c3]] (by rfl) rfl rfl q95_ ?_
     with_reducible refine (node_itemKey.calls x.f0.f0 x.f0.f1 x.f0.f2 A3 c3 x.f1 x.f0.f0 x.f0.f1 x.f0.f2 _ (Kd.C_below HV.out (HBB.out _ (HW.out.drew))) HV1.out rfl).mono ?_
     rintro e w7 ⟨rfl, hb⟩
     refine ⟨_, rfl, ?_⟩
     have H7 := Aside0.mk (below_more HW.out.drew hb)
     clear hb
     refine hK.out _ _ (HQC.out _ H7.out) (fun hHeld => ?_)
     clear hK K
     refine norm_ (a' := ?_) ?_ ?_
     rotate_left
     ·show Act.put _ (some 16) _ = _
      simp only [Act.put, List.setIfInBounds_toArray, List.set_cons_zero, List.set_cons_succ, i64_w, i32_w]
      rfl
     refine stepOne rfl rfl (one_of HT_.out q8_) q210_ (fun K hK => ?_)
     refine goes_ Try.func51 q8_ rfl #[.agg #[.int .i64 x.f0.f0, .int .i64 x.f0.f1, .int .i64 x.f0.f2]] (by rfl) rfl rfl q95_ ?_
     with_reducible refine (key_May.calls _ _ _ _ _ ((MayK x.f0).trans (congrArg some HM.out))).mono ?_
     rintro e w8 ⟨rfl, hb⟩
     refine ⟨_, rfl, ?_⟩
     have H8 := Aside0.mk (below_more H7.out hb)
     clear hb
     refine hK.out _ _ (HQC.out _ H8.out) (fun hHeld => ?_)
     clear hK K
     refine norm_ (a' := ?_) ?_ ?_
     rotate_left
     ·show Act.put _ (some 17) _ = _
      simp only [Act.put, List.setIfInBounds_toArray, List.set_cons_zero, List.set_cons_succ, i64_w, i32_w]
      rfl
     iterate 2 (refine stepPu (v := ?_) rfl rfl (any_of HT_.out q8_) (fun _ _ _ h => h) (Or.inl ⟨by rfl, ?_⟩) (a' := ?_) ?_ ?_; rotate_left; (· intro w'; go_simp; with_reducible rfl); rotate_left; (· (simp only [Act.put, List.setIfInBounds_toArray, List.set_cons_zero, List.set_cons_succ, i64_w, i32_w]; rfl)))
     iterate 8 (refine stepPu (v := ?_) rfl rfl (any_of HT_.out q8_) (fun _ _ _ h => h) (Or.inl ⟨by rfl, ?_⟩) (a' := ?_) ?_ ?_; rotate_left; (· intro w'; go_simp; with_reducible rfl); rotate_left; (· (simp only [Act.put, List.setIfInBounds_toArray, List.set_cons_zero, List.set_cons_succ, i64_w, i32_w]; rfl)))
     (refine stepLd (v := ?_) rfl rfl (take_ofW HT_.out HW_.out q8_) (fun _ _ _ h => h) (Or.inl ⟨by rfl, ?_⟩) hHeld (a' := ?_) ?_ ?_; rotate_left; (· rintro w' ⟨s0, s1, s2, s3, s4, s5, s6, s7⟩; go_simp; with_reducible rfl); rotate_left; (· (simp only [Act.put, List.setIfInBounds_toArray, List.set_cons_zero, List.set_cons_succ, i64_w, i32_w]; rfl)))
     (refine stepPu (v := ?_) rfl rfl (any_of HT_.out q8_) (fun _ _ _ h => h) (Or.inl ⟨by rfl, ?_⟩) (a' := ?_) ?_ ?_; rotate_left; (· intro w'; go_simp; with_reducible rfl); rotate_left; (· (simp only [Act.put, List.setIfInBounds_toArray, List.set_cons_zero, List.set_cons_succ, i64_w, i32_w]; rfl)))
     (refine stepLd (v := ?_) rfl rfl (take_ofW HT_.out HW_.out q8_) (fun _ _ _ h => h) (Or.inl ⟨by rfl, ?_⟩) hHeld (a' := ?_) ?_ ?_; rotate_left; (· rintro w' ⟨s0, s1, s2, s3, s4, s5, s6, s7⟩; go_simp; with_reducible rfl); rotate_left; (· (simp only [Act.put, List.setIfInBounds_toArray, List.set_cons_zero, List.set_cons_succ, i64_w, i32_w]; rfl)))
     refine stepOne rfl rfl (one_of HT_.out q8_) q210_ (fun K hK => ?_)
     refine goesV_ Try.func28 q8_ rfl #[.agg #[.int .i64 y.f0.f0, .int .i64 y.f0.f1, .int .i64 y.f0.f2, .slice A4 y.f1.length c4]] (by rfl) rfl rfl q95_ ?_
     with_reducible refine (node_itemKey.calls y.f0.f0 y.f0.f1 y.f0.f2 A4 c4 y.f1 y.f0.f0 y.f0.f1 y.f0.f2 _ (Kd.C_below HU.out (HBB.out _ H8.out)) HU1.out rfl).mono ?_
     rintro e w9 ⟨rfl, hb⟩
     refine ⟨_, rfl, ?_⟩
     have H9 := Aside0.mk (below_more H8.out hb)
     clear hb
     refine hK.out _ _ (HQC.out _ H9.out) (fun hHeld => ?_)
     clear hK K
     refine norm_ (a' := ?_) ?_ ?_
     rotate_left
     ·show Act.put _ (some 29) _ = _
      simp only [Act.put, List.setIfInBounds_toArray, List.set_cons_zero, List.set_cons_succ, i64_w, i32_w]
      rfl
     refine stepOne rfl rfl (one_of HT_.out q8_) q210_ (fun K hK => ?_)
     refine goesV_ Try.func28 q8_ rfl #[.agg #[.int .i64 x.f0.f0, .int .i64 x.f0.f1, .int .i64 x.f0.f2, .slice A3 x.f1.length c3]] (by rfl) rfl rfl q95_ ?_
     with_reducible refine (node_itemKey.calls x.f0.f0 x.f0.f1 x.f0.f2 A3 c3 x.f1 x.f0.f0 x.f0.f1 x.f0.f2 _ (Kd.C_below HV.out (HBB.out _ H9.out)) HV1.out rfl).mono ?_
     rintro e w10 ⟨rfl, hb⟩
     refine ⟨_, rfl, ?_⟩
     have H10 := Aside0.mk (below_more H9.out hb)
     clear hb
     refine hK.out _ _ (HQC.out _ H10.out) (fun hHeld => ?_)
     clear hK K
     refine norm_ (a' := ?_) ?_ ?_
     rotate_left
     ·show Act.put _ (some 32) _ = _
      simp only [Act.put, List.setIfInBounds_toArray, List.set_cons_zero, List.set_cons_succ, i64_w, i32_w]
      rfl
     refine stepOne rfl rfl (one_of HT_.out q8_) q210_ (fun K hK => ?_)
     refine goes_ Try.func40 q8_ rfl #[.agg #[.int .i64 y.f0.f0, .int .i64 y.f0.f1, .int .i64 y.f0.f2], .agg #[.int .i64 x.f0.f0, .int .i64 x.f0.f1, .int .i64 x.f0.f2]] (by rfl) rfl rfl q95_ ?_
     with_reducible refine (key_Less.calls 4 _ _ _ _ _ _ _ _ ((LessK y.f0 x.f0).trans (congrArg some HM2.out))).mono ?_
     rintro e w11 ⟨rfl, hb⟩
     refine ⟨_, rfl, ?_⟩
     have H11 := Aside0.mk (below_more H10.out hb)
     clear hb
     refine hK.out _ _ (HQC.out _ H11.out) (fun hHeld => ?_)
     clear hK K
     refine norm_ (a' := ?_) ?_ ?_
     rotate_left
     ·show Act.put _ (some 33) _ = _
      simp only [Act.put, List.setIfInBounds_toArray, List.set_cons_zero, List.set_cons_succ, i64_w, i32_w]
      rfl
     iterate 3 (refine stepPu (v := ?_) rfl rfl (any_of HT_.out q8_) (fun _ _ _ h => h) (Or.inl ⟨by rfl, ?_⟩) (a' := ?_) ?_ ?_; rotate_left; (· intro w'; go_simp; with_reducible rfl); rotate_left; (· (simp only [Act.put, List.setIfInBounds_toArray, List.set_cons_zero, List.set_cons_succ, i64_w, i32_w]; rfl)))
     refine done_ (done_of HT_.out q8_) ?_
     cases b2 with
     | false =>
      go_wp2
      go_ret
      rw [risesBy_no HLT.out (by have hx := HX.out; rw [HAB.out] at hx ⊢; exact (okAt_s hx HY.out HM.out).trans HM2.out)]
      exact ⟨rfl, HWW.out _ H11.out⟩
     | true =>
      go_wp2_with fail
      refine ⟨⟨a + 1, by rw [e1.out], HLT.out, ⟨HWW.out _ H11.out⟩, ⟨?_⟩⟩, by rw [e1.out]; exact meas_r a N HLT.out⟩
      intro j hj
      rcases Nat.lt_succ_iff_lt_or_eq.1 hj with h | h
      ·exact HP.out j h
      ·have hx := HX.out; rw [HAB.out] at hx; rw [h, HAB.out, okAt_s hx HY.out HM.out]; exact HM2.out
  ·have h2 : ¬ (a : Int) < (N : Int) := fun h => hlt (Int.ofNat_lt.1 h)
   have h1 : decide ((a : Int) < (N : Int)) = false := decide_eq_false h2
   obtain rfl : a = N := Nat.le_antisymm ha (Nat.le_of_not_lt hlt)
   clear hlt ha
   go_wp2
   go_ret
   rw [risesBy_yes HP.out]
   exact ⟨rfl, HB.out⟩
/-! ### end of GIVEN -/
/-! ### node_kidKey: function 30 -/
def node_kidKey.f (a0_0 : Int) (a0_1 : Int) (a0_2 : Int) (a0_3 : Int) : Option (Int × Int × Int) := some (a0_0, a0_1, a0_2)
set_option maxHeartbeats 8000000 in
set_option maxRecDepth 100000 in
theorem node_kidKey.calls (a0_0 : Int) (a0_1 : Int) (a0_2 : Int) (a0_3 : Int) (r1 : Int) (r2 : Int) (r3 : Int) (w : World) (h : node_kidKey.f a0_0 a0_1 a0_2 a0_3 = some (r1, r2, r3)) :
  Calls Try.prog 30 #[.agg #[.int .i64 a0_0, .int .i64 a0_1, .int .i64 a0_2, .int .i64 a0_3]] w fun e w' => e = .returned (.agg #[.int .i64 r1, .int .i64 r2, .int .i64 r3]) ∧ Below w.heap.size w w' := by
 have hu57 := Try.underlying57
 have hu35 := Try.underlying35
 have HB := Aside0.mk (Below.refl w.heap.size w)
 have H : (some (a0_0, a0_1, a0_2)) = some (r1, r2, r3) := h
 clear h
 simp only [Option.some.injEq, Prod.mk.injEq] at H
 obtain ⟨rfl, rfl, rfl⟩ := H
 go_enter Try.func30, Try.ntmps30
 go_wp2_with (first | ((with_reducible refine gate_dst (N := 1) rfl ?_); refine box_event ?hg (N := 1) ?hd (cs := #[.int .i64 a0_0, .int .i64 a0_1, .int .i64 a0_2, .int .i64 a0_3]) (t := 57) ?hr ?_; (case hd => rfl); (case hg => rfl); (case hr => first | (go_simp; done) | (go_simp; rfl)); intro gb121 hg w2 hbox hb; have n0_ := Aside0.mk (below_step q0_ hb); have n1_ := Aside0.mk (hbox); have n2_ := Aside0.mk ((by rw [hg]; exact (below_size q0_) : w.heap.size ≤ gb121)); have n3_ := Aside0.mk ((by rw [hg]; exact (below_size q0_) : w.heap.size ≤ gb121)); clear HB; have HB := n0_; have BK121 := n1_; have GW121 := n2_; have GE121 := n3_; clear n0_ n1_ n2_ n3_; clear hb hbox hg) | ((with_reducible refine gate_dst (N := 2) rfl ?_); refine box_event ?hg (N := 2) ?hd (cs := #[.int .i64 0, .int .i64 0, .int .i64 0]) (t := 35) ?hr ?_; (case hd => rfl); (case hg => rfl); (case hr => first | (go_simp; done) | (go_simp; rfl)); intro gb122 hg w3 hbox hb; have n0_ := Aside0.mk (blk_below (g := gb121) (o := .cells #[.int .i64 a0_0, .int .i64 a0_1, .int .i64 a0_2, .int .i64 a0_3] 57 (0, 0)) (by (with_reducible repeat (first | refine blk_drewN ?_ _ | refine blk_drew ?_ | refine blk_alloc ?_ _)); exact BK121.out) hb); have n1_ := Aside0.mk (below_step (by repeat (first | (with_reducible first | exact HB.out | apply below_alloc | apply pw_below_drewN | apply below_drew1 | refine below_set ?_ GE121.out) | exact HB.out)) hb); have n2_ := Aside0.mk (hbox); have n3_ := Aside0.mk ((by rw [hg]; exact (below_size (by repeat (first | (with_reducible first | exact HB.out | apply below_alloc | apply pw_below_drewN | apply below_drew1 | refine below_set ?_ GE121.out) | exact HB.out))) : w.heap.size ≤ gb122)); have n4_ := Aside0.mk ((by rw [hg]; exact (below_size (by repeat (first | (with_reducible first | exact HB.out | apply below_alloc | apply pw_below_drewN | apply below_drew1 | refine below_set ?_ GE121.out) | exact HB.out))) : w.heap.size ≤ gb122)); have n5_ := Aside0.mk ((by rw [hg]; exact Nat.ne_of_lt (blk_lt (g := gb121) (o := .cells #[.int .i64 a0_0, .int .i64 a0_1, .int .i64 a0_2, .int .i64 a0_3] 57 (0, 0)) (by (with_reducible repeat (first | refine blk_drewN ?_ _ | refine blk_drew ?_ | refine blk_alloc ?_ _)); exact BK121.out)) : gb121 ≠ gb122)); have n6_ := Aside0.mk ((by rw [hg]; exact Nat.ne_of_gt (blk_lt (g := gb121) (o := .cells #[.int .i64 a0_0, .int .i64 a0_1, .int .i64 a0_2, .int .i64 a0_3] 57 (0, 0)) (by (with_reducible repeat (first | refine blk_drewN ?_ _ | refine blk_drew ?_ | refine blk_alloc ?_ _)); exact BK121.out)) : gb122 ≠ gb121)); clear BK121; clear HB; have BK121 := n0_; have HB := n1_; have BK122 := n2_; have GW122 := n3_; have GE122 := n4_; have NB121_122 := n5_; have NB122_121 := n6_; clear n0_ n1_ n2_ n3_ n4_ n5_ n6_; clear hb hbox hg; have hnb4 := NB121_122.out; have hnc4 := NB122_121.out; have hcz5_0 : w3.cell? ⟨gb121, 0, none⟩ = some (.int .i64 a0_0) := (blk_cell BK121.out 0).trans rfl; have hcz5_1 : w3.cell? ⟨gb121, 1, none⟩ = some (.int .i64 a0_1) := (blk_cell BK121.out 1).trans rfl; have hcz5_2 : w3.cell? ⟨gb121, 2, none⟩ = some (.int .i64 a0_2) := (blk_cell BK121.out 2).trans rfl; have hcz5_3 : w3.cell? ⟨gb121, 3, none⟩ = some (.int .i64 a0_3) := (blk_cell BK121.out 3).trans rfl; have hfz5_0 := blk_frozen BK121.out 0; have hfz5_1 := blk_frozen BK121.out 1; have hfz5_2 := blk_frozen BK121.out 2; have hfz5_3 := blk_frozen BK121.out 3; have hcz6_0 : w3.cell? ⟨gb122, 0, none⟩ = some (.int .i64 0) := (blk_cell BK122.out 0).trans rfl; have hcz6_1 : w3.cell? ⟨gb122, 1, none⟩ = some (.int .i64 0) := (blk_cell BK122.out 1).trans rfl; have hcz6_2 : w3.cell? ⟨gb122, 2, none⟩ = some (.int .i64 0) := (blk_cell BK122.out 2).trans rfl; have hfz6_0 := blk_frozen BK122.out 0; have hfz6_1 := blk_frozen BK122.out 1; have hfz6_2 := blk_frozen BK122.out 2))
 refine bodyPost_ret (results_cell_row rfl _ _ gb122 35 #[.int .i64 a0_0, .int .i64 a0_1, .int .i64 a0_2] (0, 0) _ rfl (by (with_reducible repeat (first | refine blk_drewN ?_ _ | refine blk_drew ?_ | refine blk_alloc ?_ _)); refine blk_put (cs := #[.int .i64 a0_0, .int .i64 a0_1, .int .i64 0]) ?_ 2 _ rfl; (with_reducible repeat (first | refine blk_drewN ?_ _ | refine blk_drew ?_ | refine blk_alloc ?_ _)); refine blk_put (cs := #[.int .i64 a0_0, .int .i64 0, .int .i64 0]) ?_ 1 _ rfl; (with_reducible repeat (first | refine blk_drewN ?_ _ | refine blk_drew ?_ | refine blk_alloc ?_ _)); refine blk_put (cs := #[.int .i64 0, .int .i64 0, .int .i64 0]) ?_ 0 _ rfl; (with_reducible repeat (first | refine blk_drewN ?_ _ | refine blk_drew ?_ | refine blk_alloc ?_ _)); exact BK122.out) Try.underlying35 rfl q8_) rfl ?_
 exact ⟨q6_, by repeat (first | (with_reducible first | exact HB.out | apply below_alloc | apply pw_below_drewN | apply below_drew1 | refine below_set ?_ GE121.out | refine below_set ?_ GE122.out) | exact HB.out)⟩

end Go.Proofs.Ytcjnknpbikfimaa.P
