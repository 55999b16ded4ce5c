/- Corrupt. -/
import Derived.Test.YtoloibjdiojmlaaDrv5
import Derived.Laws.BitsAllLaws
namespace Go.Proofs.Ytoloibjdiojmlaa.P
open Go.RowKit Go.Proofs.YtoloibjdiojmlaaW.PrintWords Go.Proofs.YtoloibjdiojmlaaW.PrintLast Go.Proofs.YtoloibjdiojmlaaW.PrintMore Go.Proofs.Ytoloibjdiojmlaa.Sep
set_option linter.unusedVariables false
set_option linter.unusedSimpArgs false
attribute [local go_sem] max2_int min2_int max_two min_two max_three min_three max_four min_four
theorem step_store_int {P : Program} {ops : Array Oper} {op : Oper} {a : Act} {w : World} {K : Act → World → Prop} {Q : Exit → Act → World → Prop} {E : Prop} (hw : Region.wanted op (yielded ops a.tmps) = true) (ty : TypeId) (x y : Operand) (ho : op.op = .store ty x y)
    (b o : Nat) (k : IntKind) (n : Int) (hx : a.eval x = .pointer (some ⟨b, o, none⟩)) (hy : a.eval y = .int k n)
    (hc : (w.cell? ⟨b, o, none⟩).isSome = true) (hf : w.frozen? ⟨b, o, none⟩ = false) (hi : (P.info? ty).map (·.size) = some 1)
    (h : K (a.put op.dst undef) (w.setCell ⟨b, o, none⟩ (.int k n))) : if Region.wanted op (yielded ops a.tmps) = true then op.wp P a w K Q else E := by
  rw [if_pos hw]
  have hst := run_storeCells_cells (P := P) b o [.int k n] 0 w (fun j hj => by
    have : j = 0 := by simpa using hj
    subst this
    exact hc) (fun j hj => by
    have : j = 0 := by simpa using hj
    subst this
    exact hf) (fun v hv => by
    rw [List.mem_singleton.1 hv]
    rfl)
  have hs : (storeVar ty ⟨b, o, none⟩ (.int k n)).run P w = .ok () (w.setCell ⟨b, o, none⟩ (.int k n)) := by
    cases hq : P.info? ty with
    | none => simp [hq] at hi
    | some i =>
      have hs : i.size = 1 := by simpa [hq] using hi
      simp [storeVar, sizeOf, typeInfo, hq, hs, Value.cells, hst]
      rfl
  unfold Oper.wp execOp
  simp only [ho, hx, hy, Instr.storeAt, Instr.sureAddr, Sem.run_bind, Sem.run_pure, Result.andThen_ok, hs]
  exact h
def xorB (x m : Int) : Int := Go.bits .xor .u8 x m
theorem xorB_is {x m : Int} (hx : 0 ≤ x ∧ x < 256) (hm : 0 ≤ m ∧ m < 256) : xorB x m = ((x.toNat ^^^ m.toNat : Nat) : Int) := u8_xor x m hx.1 hx.2 hm.1 hm.2
theorem xorB_range {x m : Int} (hx : 0 ≤ x ∧ x < 256) (hm : 0 ≤ m ∧ m < 256) : 0 ≤ xorB x m ∧ xorB x m < 256 := by
  rw [xorB_is hx hm]
  have := Nat.xor_lt_two_pow (n := 8) (show x.toNat < 2 ^ 8 by omega) (show m.toNat < 2 ^ 8 by omega)
  omega
theorem xorB_twice {x m : Int} (hx : 0 ≤ x ∧ x < 256) (hm : 0 ≤ m ∧ m < 256) : xorB (xorB x m) m = x := by
  rw [xorB_is (xorB_range hx hm) hm, xorB_is hx hm, Int.toNat_natCast, Nat.xor_assoc, Nat.xor_self, Nat.xor_zero]
  omega
def turnS (j : Nat) (m : Int) (x : List Int) : List Int := x.set j (xorB (x.getD j 0) m)
theorem turnS_ok {j : Nat} {m : Int} {x : List Int} (hj : j < 256) (hm : 0 ≤ m ∧ m < 256) (hx : Sec x) : Sec (turnS j m x) := by
  refine hx.set j (xorB_range ?_ hm)
  rw [List.getD_eq_getElem?_getD, List.getElem?_eq_getElem (by rw [hx.1]; exact hj)]
  exact hx.2 _ (List.getElem_mem _)
theorem turnS_twice {j : Nat} {m : Int} {x : List Int} (hj : j < 256) (hm : 0 ≤ m ∧ m < 256) (hx : Sec x) : turnS j m (turnS j m x) = x := by
  have hl : j < x.length := by rw [hx.1]; exact hj
  have hr : 0 ≤ x.getD j 0 ∧ x.getD j 0 < 256 := by
    rw [List.getD_eq_getElem?_getD, List.getElem?_eq_getElem hl]
    exact hx.2 _ (List.getElem_mem _)
  have h1 : (x.set j (xorB (x.getD j 0) m)).getD j 0 = xorB (x.getD j 0) m := by
    rw [List.getD_eq_getElem?_getD, List.getElem?_set_self hl]; rfl
  unfold turnS
  rw [h1, xorB_twice hr hm, List.set_set]
  apply List.ext_getElem?
  intro k
  by_cases hk : j = k
  · subst hk
    rw [List.getElem?_set_self hl, List.getD_eq_getElem?_getD, List.getElem?_eq_getElem hl]
    rfl
  · rw [List.getElem?_set_ne hk]
def midT (j : Nat) (m : Int) (t : List (List Int)) (q : Nat) : List (List Int) := (t.take q).map (turnS j m) ++ t.drop q
theorem midT_len (j : Nat) (m : Int) (t : List (List Int)) (q : Nat) (h : q ≤ t.length) : (midT j m t q).length = t.length := by unfold midT; simp; omega
theorem midT_get (j : Nat) (m : Int) (t : List (List Int)) (q : Nat) (h : q < t.length) : (midT j m t q).getD q [] = t.getD q [] := by
  unfold midT
  rw [List.getD_eq_getElem?_getD, List.getElem?_append_right (by simp; omega), List.length_map, List.length_take, Nat.min_eq_left (by omega), Nat.sub_self, List.getElem?_drop, Nat.add_zero, List.getD_eq_getElem?_getD]
theorem midT_next (j : Nat) (m : Int) (t : List (List Int)) (q : Nat) (h : q < t.length) : (midT j m t q).set q (turnS j m (t.getD q [])) = midT j m t (q + 1) := by
  unfold midT
  rw [List.set_append_right _ _ (by simp; omega), List.length_map, List.length_take, Nat.min_eq_left (by omega), Nat.sub_self, List.drop_eq_getElem_cons h, List.set_cons_zero, List.take_add_one, List.getElem?_eq_getElem h, List.map_append, List.append_assoc, List.getD_eq_getElem?_getD, List.getElem?_eq_getElem h]
  rfl
theorem midT_start (j : Nat) (m : Int) (t : List (List Int)) : midT j m t 0 = t := by unfold midT; simp
theorem midT_stop (j : Nat) (m : Int) (t : List (List Int)) : midT j m t t.length = t.map (turnS j m) := by unfold midT; simp
def corruptD (D : DV) (i j : Nat) (m : Int) : DV := { D with hs := D.hs.set i (turnS j m (D.hs.getD i [])), ts := D.ts.set i ((D.ts.getD i []).map (turnS j m)) }
theorem corruptD_ok {D : DV} (h : DOk D) (i j : Nat) (m : Int) : DOk (corruptD D i j m) := by
  obtain ⟨h1, h2, h3, h4⟩ := h
  refine ⟨by unfold corruptD; simpa using h1, by unfold corruptD; simpa using h2, h3, fun t ht => ?_⟩
  unfold corruptD at ht ⊢
  dsimp only at ht ⊢
  rcases List.mem_or_eq_of_mem_set ht with ht | rfl
  · exact h4 t ht
  · rw [List.length_map, List.getD_eq_getElem?_getD]
    cases hq : D.ts[i]? with
    | none => exact Nat.zero_le _
    | some t => exact h4 t (List.mem_of_getElem? hq)
def mayC (D : DV) (s j m : Int) : Prop := isS D s = true ∧ (0 ≤ j ∧ j < 256) ∧ (0 ≤ m ∧ m ≤ 255)
def CorruptPost (w0 : World) (ps : List HP) (C : DV → HP) (D : DV) (s j m : Int) (e : Ending) (w' : World) : Prop :=
  (mayC D s j m → e = .returned (.int .i64 0) ∧ St w0 w' (C (corruptD D s.toNat j.toNat m) :: ps)) ∧ (¬ mayC D s j m → e = .returned (.int .i64 1) ∧ St w0 w' (C D :: ps))
section
variable {w0 w : World} {ps : List HP} {g : Nat} {D : DV}
def ca_T : Bool × List (List Nat × List Nat) := (true, [([], []), ([0], [0]), ([1], [1]), ([2], [2]), ([], []), ([], []), ([3, 4], [3, 4]), ([6, 5], [5, 6]), ([7], [7]), ([], []), ([9], [9]), ([8, 10], [8, 10]), ([3, 4], [3, 4]), ([12, 5, 0, 1, 2, 3, 4, 5, 6, 7, 8, 9, 10, 11], [5, 12]), ([13, 11, 0, 1, 2, 3, 4, 5, 6, 7, 8, 9, 10, 11], [11, 13])])
def ca_B : List Nat := [0, 1, 3, 7, 0, 0, 31, 127, 255, 0, 512, 2047, 31, 8191, 16383]
theorem ca_tab : rtab .any (opsOf Try.f21 3) = ca_T := by kernel_rfl
theorem ca_bits : waitsOk ca_T.2 ca_B = true := by kernel_rfl
def cb_T : Bool × List (List Nat × List Nat) := (true, [([], []), ([0], [0]), ([1], [1]), ([2], [2]), ([], []), ([3, 4], [3, 4]), ([], []), ([], []), ([5, 6], [5, 6]), ([8, 7], [7, 8]), ([9], [9]), ([], []), ([11], [11]), ([10, 12], [10, 12]), ([5, 6], [5, 6]), ([14, 7, 0, 1, 2, 3, 4, 5, 6, 7, 8, 9, 10, 11, 12, 13], [7, 14]), ([15, 13, 0, 1, 2, 3, 4, 5, 6, 7, 8, 9, 10, 11, 12, 13], [13, 15])])
def cb_B : List Nat := [0, 1, 3, 7, 0, 31, 0, 0, 127, 511, 1023, 0, 2048, 8191, 127, 32767, 65535]
theorem cb_tab : rtab .any (opsOf Try.f21 7) = cb_T := by kernel_rfl
theorem cb_bits : waitsOk cb_T.2 cb_B = true := by kernel_rfl
set_option maxHeartbeats 8000000 in
set_option maxRecDepth 100000 in
theorem drive_Corrupt.st (h : St w0 w (drv g D :: ps)) (s j m : Int) :
    Calls Try.prog 21 #[.pointer (some ⟨g, 0, none⟩), .int .i64 s, .int .i64 j, .int .i64 m] w fun e w' => CorruptPost w0 ps (drv g) D s j m e w' := by
  have HH := Aside0.mk h
  clear h
  by_cases hmay : mayC D s j m
  · obtain ⟨hi, hj, hm⟩ := hmay
    have HMAY := Aside0.mk (show mayC D s j m from ⟨hi, hj, hm⟩)
    have HI := Aside0.mk hi
    obtain ⟨i, rfl, hin⟩ : ∃ i : Nat, s = i ∧ i < D.hs.length := by
      unfold isS at hi
      simp only [Bool.and_eq_true, decide_eq_true_eq] at hi
      exact ⟨s.toNat, by omega, by omega⟩
    obtain ⟨j, rfl⟩ := Int.eq_ofNat_of_zero_le hj.1
    have hj2 : j < 256 := by omega
    have HM := Aside0.mk (show 0 ≤ m ∧ m < 256 from by omega)
    have HIN := Aside0.mk hin
    have HJ := Aside0.mk hj2
    obtain ⟨hp, ⟨A, c, b, mm⟩, hs1⟩ := drv_out HH.out
    have HP := Aside0.mk (corruptD_ok hp i j m)
    have HTH := Aside0.mk hp.1
    obtain ⟨hs, ts, off, fuse, steps⟩ := D
    unfold drvM at hs1
    dsimp only at hs1 HTH HIN hin HP
    obtain ⟨hl, hhl⟩ : ∃ hl, hs.length = hl := ⟨_, rfl⟩
    rw [hhl] at hs1 HTH HIN hin
    have HHL := Aside0.mk hhl
    obtain ⟨nn, hnn⟩ : ∃ nn, cntT ts = nn := ⟨_, rfl⟩
    rw [hnn] at hs1
    have HNN := Aside0.mk hnn
    have HS1 := Aside0.mk (hs1.drew)
    obtain ⟨gA, hA, hcA, hfA, hxA, hset⟩ := St.row_byte HS1.out.swap i hin j hj2
    subst hA
    obtain ⟨x0, hx0⟩ : ∃ x0, hs.getD i [] = x0 := ⟨_, rfl⟩
    rw [hx0] at hcA hxA hset
    obtain ⟨y0, hy0⟩ : ∃ y0, x0.getD j 0 = y0 := ⟨_, rfl⟩
    rw [hy0] at hcA
    have hy0r : 0 ≤ y0 ∧ y0 < 256 := by
      rw [← hy0, List.getD_eq_getElem?_getD, List.getElem?_eq_getElem (by rw [hxA.1]; exact hj2)]
      exact hxA.2 _ (List.getElem_mem _)
    have HSET := Aside0.mk (hset (xorB y0 m) (xorB_range hy0r HM.out))
    rw [show x0.set j (xorB y0 m) = turnS j m x0 from by unfold turnS; rw [hy0]] at HSET
    have HCA := Aside0.mk hcA
    have HFA := Aside0.mk hfA
    have HX0 := Aside0.mk hx0
    have HK0 := Aside0.mk (drv_cells HS1.out).1
    have h1 : decide ((j : Int) < 0) = false := decide_eq_false (by omega)
    have h2 : decide ((j : Int) ≥ 256) = false := decide_eq_false (by omega)
    have h3 : decide (m < 0) = false := decide_eq_false (by omega)
    have h4 : decide (m > 255) = false := decide_eq_false (by omega)
    have h1p : ¬ (j : Int) < 0 := by omega
    have h2p : ¬ (j : Int) ≥ 256 := by omega
    have h3p : ¬ m < 0 := by omega
    have h4p : ¬ m > 255 := by omega
    have h5 : (i : Int) < (hl : Int) := by omega
    have h6 : (j : Int) < 256 := by omega
    have e1 : IntKind.u8.wrap m = m := by have := HM.out; rw [IntKind.wrap_u8']; omega
    clear hi hj hm hs1 hp hhl hnn hcA hfA hxA hset hx0 hy0 hy0r hin
    go_enter Try.func21, Try.ntmps21
    go_wp2_with fail
    refine (drive_is.st HH.out i).mono ?_
    rintro e w' ⟨rfl, rfl⟩
    rw [HI.out]
    go_upto_region 3 with fail
    refine stepStartD (fun w' => w'.cell? ⟨g, 0, none⟩ = some (.slice (some ⟨gA, 0, none⟩) hl c) ∧ w'.cell? ⟨gA, i * 256 + j, none⟩ = some (.int .u8 y0)) 15 [0, 1, 2, 3, 4, 5, 6, 7, 8, 9, 10, 11, 12, 13, 14] [14] ca_tab ca_bits (by kernel_rfl) rfl ⟨HK0.out, HCA.out⟩ (fun HT_ HW_ hHeld => ?_)
    iterate 3 (refine stepPu (v := ?_) rfl rfl (any_of HT_.out (by kernel_rfl)) (fun _ _ _ h => h) (Or.inl ⟨by rfl, ?_⟩) (a' := ?_) ?_ ?_; rotate_left; (· intro w'; go_simp; with_reducible rfl); rotate_left; (· (simp only [Act.put, List.setIfInBounds_toArray, List.set_cons_zero, List.set_cons_succ, i64_w, i32_w]; rfl)))
    (refine stepLd (v := ?_) rfl rfl (take_ofW HT_.out HW_.out (by kernel_rfl)) (fun _ _ _ h => h) (Or.inl ⟨by rfl, ?_⟩) hHeld (a' := ?_) ?_ ?_; rotate_left; (· rintro w' ⟨s0, s1⟩; go_simp; with_reducible rfl); rotate_left; (· (simp only [Act.put, List.setIfInBounds_toArray, List.set_cons_zero, List.set_cons_succ, i64_w, i32_w]; rfl)))
    iterate 4 (refine stepPu (v := ?_) rfl rfl (any_of HT_.out (by kernel_rfl)) (fun _ _ _ h => h) (Or.inl ⟨by rfl, ?_⟩) (a' := ?_) ?_ ?_; rotate_left; (· intro w'; go_simp; with_reducible rfl); rotate_left; (· (simp only [Act.put, List.setIfInBounds_toArray, List.set_cons_zero, List.set_cons_succ, i64_w, i32_w]; rfl)))
    (refine stepLd (v := ?_) rfl rfl (take_ofW HT_.out HW_.out (by kernel_rfl)) (fun _ _ _ h => h) (Or.inl ⟨by rfl, ?_⟩) hHeld (a' := ?_) ?_ ?_; rotate_left; (· rintro w' ⟨s0, s1⟩; go_simp; with_reducible rfl); rotate_left; (· (simp only [Act.put, List.setIfInBounds_toArray, List.set_cons_zero, List.set_cons_succ, i64_w, i32_w]; rfl)))
    iterate 5 (refine stepPu (v := ?_) rfl rfl (any_of HT_.out (by kernel_rfl)) (fun _ _ _ h => h) (Or.inl ⟨by rfl, ?_⟩) (a' := ?_) ?_ ?_; rotate_left; (· intro w'; go_simp; with_reducible rfl); rotate_left; (· (simp only [Act.put, List.setIfInBounds_toArray, List.set_cons_zero, List.set_cons_succ, i64_w, i32_w]; rfl)))
    refine stepLast rfl rfl (one_of HT_.out (by kernel_rfl)) (by decide) (fun K hK => ?_)
    refine step_store_int (by rfl) 5 (.tmp 43) (.tmp 41) rfl gA (i * 256 + j) .u8 (xorB y0 m) rfl rfl (by rw [HCA.out]; rfl) HFA.out (by kernel_rfl) ?_
    refine hK.out _ _ ?_
    clear hK K
    refine done_ (done_of HT_.out (by kernel_rfl)) ?_
    clear HT_ HW_ hHeld
    obtain ⟨W1, hW1⟩ : ∃ W, w.drew.setCell ⟨gA, i * 256 + j, none⟩ (.int .u8 (xorB y0 m)) = W := ⟨_, rfl⟩
    rw [hW1] at HSET ⊢
    have HS1 := HSET
    clear hW1 HSET HCA HFA HK0
    simp only [Act.put]
    have hz1 := fun W : World => (show (zeroValue 60).run Try.prog W = .ok nilS W from by kernel_rfl)
    obtain ⟨v, hv, hd, hs3⟩ := St.map_take (HS1.out.front 2) (i : Int)
    obtain ⟨A2, c2, hv2⟩ := (hs3.front 1).row_slice
    subst hv2
    obtain ⟨t, ht⟩ : ∃ t, look ts (i : Int) = t := ⟨_, rfl⟩
    rw [ht] at hv hd hs3
    have HT := Aside0.mk (show ts.getD i [] = t from by rw [← look_nat]; exact ht)
    have HTB := Aside0.mk (show t.length ≤ 9223372036854775807 from ((hs3.front 1).row_C).2.2.2.1)
    obtain ⟨n2, hn2⟩ : ∃ n2, t.length = n2 := ⟨_, rfl⟩
    rw [hn2] at hv hd hs3 HTB
    have HN2 := Aside0.mk hn2
    have HV := Aside0.mk hv
    have HD := Aside0.mk hd
    obtain ⟨hs', hhs'⟩ : ∃ hs', hs.set i (turnS j m x0) = hs' := ⟨_, rfl⟩
    rw [hhs'] at hs3
    have HHS := Aside0.mk hhs'
    have HS3 := Aside0.mk (show St w0 W1 (mpo b nn 66 mm (look ts) (some (i : Int)) none :: row kSec 66 (.slice A2 n2 c2) (midT j m t 0) :: blk g (dCells (some ⟨gA, 0, none⟩) hl c b off fuse steps) 63 :: row kSec 66 (.slice (some ⟨gA, 0, none⟩) hl c) hs' :: ps) from by rw [midT_start]; exact St.back 2 (St.front 3 hs3))
    have k1 := (drv_cells (HS3.out.front 2)).2.1
    clear hv hd hs3 ht hn2 hhs' HS1
    go_wp2_with ((with_reducible refine gate_dst (N := 49) rfl ?_); refine wpList_lookup_at rfl (.tmp 47) (.tmp 48) rfl rfl (St.map_at HS3.out) Try.underlying61 Try.underlying3 (hz1 _) (i : Int) rfl ?_; rw [HV.out])
    go_loopw [51] (fun ix wr => ∃ q : Nat, ix = .int .i64 (q : Int) ∧ q ≤ n2 ∧ Aside0 (St w0 wr (mpo b nn 66 mm (look ts) (some (i : Int)) none :: row kSec 66 (.slice A2 n2 c2) (midT j m t q) :: blk g (dCells (some ⟨gA, 0, none⟩) hl c b off fuse steps) 63 :: row kSec 66 (.slice (some ⟨gA, 0, none⟩) hl c) hs' :: ps))) (fun ix _ => n2 - (intOf ix).toNat)
    case atStart => exact ⟨0, rfl, Nat.zero_le _, HS3⟩
    case round =>
      clear HS3 k1
      obtain ⟨q, rfl, hq, HS⟩ := hrel
      by_cases hlt : q < n2
      · have h7 : decide ((q : Int) < (n2 : Int)) = true := decide_eq_true (by omega)
        have h8 : (q : Int) < (n2 : Int) := by omega
        have e2 := Aside0.mk (show wrap64 ((q : Int) + 1) = ((q + 1 : Nat) : Int) from by have := HTB.out; unfold wrap64; omega)
        have HME := Aside0.mk (show ∀ y : Int, y = ((q + 1 : Nat) : Int) → n2 - (intOf (.int .i64 y)).toNat < n2 - (intOf (.int .i64 (q : Int))).toNat from fun y hy => by subst hy; simp only [intOf, Int.toNat_natCast]; omega)
        obtain ⟨g2, hA, hcA, hfA, hxA, hset⟩ := St.row_byte (HS.out.drew.front 1) q hlt j HJ.out
        subst hA
        rw [midT_get j m t q (by rw [HN2.out]; exact hlt)] at hcA hxA hset
        obtain ⟨x1, hx1⟩ : ∃ x1, t.getD q [] = x1 := ⟨_, rfl⟩
        rw [hx1] at hcA hxA hset
        obtain ⟨y1, hy1⟩ : ∃ y1, x1.getD j 0 = y1 := ⟨_, rfl⟩
        rw [hy1] at hcA
        have hy1r : 0 ≤ y1 ∧ y1 < 256 := by
          rw [← hy1, List.getD_eq_getElem?_getD, List.getElem?_eq_getElem (by rw [hxA.1]; exact HJ.out)]
          exact hxA.2 _ (List.getElem_mem _)
        have HSET := Aside0.mk (hset (xorB y1 m) (xorB_range hy1r HM.out))
        rw [show x1.set j (xorB y1 m) = turnS j m (t.getD q []) from by rw [hx1]; unfold turnS; rw [hy1], midT_next j m t q (by rw [HN2.out]; exact hlt)] at HSET
        have HCA := Aside0.mk hcA
        have HFA := Aside0.mk hfA
        have HLT := Aside0.mk hlt
        have HHE := Aside0.mk (show (fun w' : World => w'.cell? ⟨g, 1, none⟩ = some (.map (some b)) ∧ (Instr.lookup 61 (.map (some b)) (.int .i64 i) false).run Try.prog w' = .ok (.slice (some ⟨g2, 0, none⟩) n2 c2) w' ∧ w'.cell? ⟨g2, q * 256 + j, none⟩ = some (.int .u8 y1)) wr.drew from by
          refine ⟨(drv_cells (HS.out.drew.front 2)).2.1, ?_, hcA⟩
          have := (St.map_at HS.out.drew).look Try.underlying61 Try.underlying3 (hz1 wr.drew) (i : Int) false
          rw [if_neg (by decide), HV.out] at this
          exact this)
        clear hcA hfA hxA hset hx1 hy1 hy1r hlt hq
        go_upto_region 7 with fail
        refine stepStartD (fun w' : World => w'.cell? ⟨g, 1, none⟩ = some (.map (some b)) ∧ (Instr.lookup 61 (.map (some b)) (.int .i64 i) false).run Try.prog w' = .ok (.slice (some ⟨g2, 0, none⟩) n2 c2) w' ∧ w'.cell? ⟨g2, q * 256 + j, none⟩ = some (.int .u8 y1)) 17 [0, 1, 2, 3, 4, 5, 6, 7, 8, 9, 10, 11, 12, 13, 14, 15, 16] [16] cb_tab cb_bits (by kernel_rfl) rfl HHE.out (fun HT_ HW_ hHeld => ?_)
        iterate 3 (refine stepPu (v := ?_) rfl rfl (any_of HT_.out (by kernel_rfl)) (fun _ _ _ h => h) (Or.inl ⟨by rfl, ?_⟩) (a' := ?_) ?_ ?_; rotate_left; (· intro w'; go_simp; with_reducible rfl); rotate_left; (· (simp only [Act.put, List.setIfInBounds_toArray, List.set_cons_zero, List.set_cons_succ, i64_w, i32_w]; rfl)))
        (refine stepLd (v := ?_) rfl rfl (take_ofW HT_.out HW_.out (by kernel_rfl)) (fun _ _ _ h => h) (Or.inl ⟨by rfl, ?_⟩) hHeld (a' := ?_) ?_ ?_; rotate_left; (· rintro w' ⟨s0, s1, s2⟩; go_simp; with_reducible rfl); rotate_left; (· (simp only [Act.put, List.setIfInBounds_toArray, List.set_cons_zero, List.set_cons_succ, i64_w, i32_w]; rfl)))
        (refine stepPu (v := ?_) rfl rfl (any_of HT_.out (by kernel_rfl)) (fun _ _ _ h => h) (Or.inl ⟨by rfl, ?_⟩) (a' := ?_) ?_ ?_; rotate_left; (· intro w'; go_simp; with_reducible rfl); rotate_left; (· (simp only [Act.put, List.setIfInBounds_toArray, List.set_cons_zero, List.set_cons_succ, i64_w, i32_w]; rfl)))
        (refine stepLd (v := ?_) rfl rfl (take_ofW HT_.out HW_.out (by kernel_rfl)) (fun _ _ _ h => h) (Or.inl ⟨by rfl, ?_⟩) hHeld (a' := ?_) ?_ ?_; rotate_left; (· rintro w' ⟨s0, s1, s2⟩; go_simp; with_reducible rfl); rotate_left; (· (simp only [Act.put, List.setIfInBounds_toArray, List.set_cons_zero, List.set_cons_succ, i64_w, i32_w]; rfl)))
        iterate 4 (refine stepPu (v := ?_) rfl rfl (any_of HT_.out (by kernel_rfl)) (fun _ _ _ h => h) (Or.inl ⟨by rfl, ?_⟩) (a' := ?_) ?_ ?_; rotate_left; (· intro w'; go_simp; with_reducible rfl); rotate_left; (· (simp only [Act.put, List.setIfInBounds_toArray, List.set_cons_zero, List.set_cons_succ, i64_w, i32_w]; rfl)))
        (refine stepLd (v := ?_) rfl rfl (take_ofW HT_.out HW_.out (by kernel_rfl)) (fun _ _ _ h => h) (Or.inl ⟨by rfl, ?_⟩) hHeld (a' := ?_) ?_ ?_; rotate_left; (· rintro w' ⟨s0, s1, s2⟩; go_simp; with_reducible rfl); rotate_left; (· (simp only [Act.put, List.setIfInBounds_toArray, List.set_cons_zero, List.set_cons_succ, i64_w, i32_w]; rfl)))
        iterate 5 (refine stepPu (v := ?_) rfl rfl (any_of HT_.out (by kernel_rfl)) (fun _ _ _ h => h) (Or.inl ⟨by rfl, ?_⟩) (a' := ?_) ?_ ?_; rotate_left; (· intro w'; go_simp; with_reducible rfl); rotate_left; (· (simp only [Act.put, List.setIfInBounds_toArray, List.set_cons_zero, List.set_cons_succ, i64_w, i32_w]; rfl)))
        refine stepLast rfl rfl (one_of HT_.out (by kernel_rfl)) (by decide) (fun K hK => ?_)
        refine step_store_int (by rfl) 5 (.tmp 69) (.tmp 67) rfl g2 (q * 256 + j) .u8 (xorB y1 m) rfl rfl (by rw [HCA.out]; rfl) HFA.out (by kernel_rfl) ?_
        refine hK.out _ _ ?_
        clear hK K
        refine done_ (done_of HT_.out (by kernel_rfl)) ?_
        clear HT_ HW_ hHeld
        simp only [Act.put]
        go_wp2_with fail
        go_roundw
        case rel => exact ⟨q + 1, by rw [e2.out], HLT.out, ⟨HSET.out.swap⟩⟩
        case measure => exact HME.out _ e2.out
      · have h7 : decide ((q : Int) < (n2 : Int)) = false := decide_eq_false (by omega)
        have h8 : ¬ (q : Int) < (n2 : Int) := by omega
        have HQ := Aside0.mk (show q = t.length from by have := HN2.out; omega)
        clear hlt hq
        go_wp2
        go_ret
        refine ⟨fun _ => ⟨rfl, ?_⟩, fun q => absurd HMAY.out q⟩
        have h9 := HS.out
        rw [HQ.out, midT_stop] at h9
        have HTL : i < ts.length := by rw [HTH.out]; omega
        have h10 := St.map_put (c' := look (ts.set i (t.map (turnS j m)))) h9 (by
          rcases HD.out with ⟨q1, q2⟩ | ⟨q1, q2⟩
          · exact Or.inl ⟨q1, by rw [q2]; rfl⟩
          · exact Or.inr ⟨q1, by simpa using q2⟩) (fun k => look_set HTL _ k)
        refine drv_in HP.out (p := ⟨some ⟨gA, 0, none⟩, c, b, mm⟩) ?_
        show St w0 wr ([blk g (dCells _ (hs.set i (turnS j m (hs.getD i []))).length c b off fuse steps) _, row kSec _ (.slice _ (hs.set i (turnS j m (hs.getD i []))).length c) (hs.set i (turnS j m (hs.getD i []))), mpo b (cntT (ts.set i ((ts.getD i []).map (turnS j m)))) _ mm (look (ts.set i ((ts.getD i []).map (turnS j m)))) none none] ++ ps)
        have hc9 := cnt_set HTL (t.map (turnS j m))
        rw [HT.out] at hc9
        have hc10 : cntT (ts.set i (t.map (turnS j m))) = nn := by
          have := HNN.out
          by_cases q : t = []
          · rw [if_pos q, if_pos (by simp [q])] at hc9; omega
          · rw [if_neg q, if_neg (by simpa using q)] at hc9; omega
        rw [HX0.out, HHS.out, HT.out, hc10, show hs'.length = hl from by rw [← HHS.out, List.length_set]; exact HHL.out]
        exact St.back 2 h10
  · have HMAY := Aside0.mk hmay
    unfold mayC at hmay
    cases hi : isS D s with
    | false =>
      have HI := Aside0.mk hi
      clear hi hmay
      go_enter Try.func21, Try.ntmps21
      go_wp2_with fail
      refine (drive_is.st HH.out s).mono ?_
      rintro e w' ⟨rfl, rfl⟩
      rw [HI.out]
      go_wp2
      go_ret
      exact ⟨fun q => absurd q HMAY.out, fun _ => ⟨rfl, HH.out⟩⟩
    | true =>
      have HI := Aside0.mk hi
      by_cases c1 : j < 0
      · have h1 : decide (j < 0) = true := decide_eq_true c1
        clear hi hmay
        go_enter Try.func21, Try.ntmps21
        go_wp2_with fail
        refine (drive_is.st HH.out s).mono ?_
        rintro e w' ⟨rfl, rfl⟩
        rw [HI.out]
        go_wp2
        go_ret
        exact ⟨fun q => absurd q HMAY.out, fun _ => ⟨rfl, HH.out⟩⟩
      · have h1 : decide (j < 0) = false := decide_eq_false c1
        by_cases c2 : j ≥ 256
        · have h2 : decide (j ≥ 256) = true := decide_eq_true c2
          clear hi hmay
          go_enter Try.func21, Try.ntmps21
          go_wp2_with fail
          refine (drive_is.st HH.out s).mono ?_
          rintro e w' ⟨rfl, rfl⟩
          rw [HI.out]
          go_wp2
          go_ret
          exact ⟨fun q => absurd q HMAY.out, fun _ => ⟨rfl, HH.out⟩⟩
        · have h2 : decide (j ≥ 256) = false := decide_eq_false c2
          by_cases c3 : m < 0
          · have h3 : decide (m < 0) = true := decide_eq_true c3
            clear hi hmay
            go_enter Try.func21, Try.ntmps21
            go_wp2_with fail
            refine (drive_is.st HH.out s).mono ?_
            rintro e w' ⟨rfl, rfl⟩
            rw [HI.out]
            go_wp2
            go_ret
            exact ⟨fun q => absurd q HMAY.out, fun _ => ⟨rfl, HH.out⟩⟩
          · have h3 : decide (m < 0) = false := decide_eq_false c3
            have c4 : m > 255 := by
              by_cases c4 : m > 255
              · exact c4
              · exact absurd ⟨hi, ⟨by omega, by omega⟩, by omega, by omega⟩ hmay
            have h4 : decide (m > 255) = true := decide_eq_true c4
            clear hi hmay
            go_enter Try.func21, Try.ntmps21
            go_wp2_with fail
            refine (drive_is.st HH.out s).mono ?_
            rintro e w' ⟨rfl, rfl⟩
            rw [HI.out]
            go_wp2
            go_ret
            exact ⟨fun q => absurd q HMAY.out, fun _ => ⟨rfl, HH.out⟩⟩
end
end Go.Proofs.Ytoloibjdiojmlaa.P
