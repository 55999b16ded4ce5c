/- Write. -/
import Derived.Test.YtoloibjdiojmlaaDrv2
import Derived.Test.YtoloibjdiojmlaaSteps
import Derived.Laws.Cover3
namespace Go.Proofs.Ytoloibjdiojmlaa.P
open Go.RowKit Go.Proofs.YtoloibjdiojmlaaW.PrintWords Go.Proofs.YtoloibjdiojmlaaW.PrintLast Go.Proofs.YtoloibjdiojmlaaW.PrintMore Go.Proofs.Ytoloibjdiojmlaa.Sep
set_option linter.unusedVariables false
set_option linter.unusedSimpArgs false
attribute [local go_sem] max2_int min2_int max_two min_two max_three min_three max_four min_four
section
variable {P : Program} {ops : Array Oper} {Q : Exit → Act → World → Prop} {md : Region.Mode} {S : World → Prop} {ds : List Nat}
theorem stepStartD {id : Nat} {a : Act} {w : World} (S : World → Prop) (n : Nat) (o : List Nat) (ds : List Nat) {T : Bool × List (List Nat × List Nat)} {B : List Nat} (hT : rtab .any ops = T) (hB : waitsOk T.2 B = true) (hm : P.follows .mixedOrders = true) (hn : ops.size = n) (hS : S w.drew)
    (h : Aside0 (rtab .any ops = T) → Aside0 (waitsOk T.2 B = true) → S w.drew → wpAnyLast P .any ops Q S ds n (pre n o 0) a w.drew) : (Code.region id ops true).wp P Q a w :=
  start_ (pre n o 0) hm hn (by subst hn; unfold pre; apply Array.ext <;> simp) hS (fun hs => h ⟨hT⟩ ⟨hB⟩ hs)
theorem stepLast {i n : Nat} {o : List Nat} {oi : Oper} {N : Option Tmp} {fuel : Nat} {a : Act} {w : World} (hi : ops[o.getD i 0]? = some oi) (hN : oi.dst = N) (hc : readyB md ops (pre n o i) (pre n o (i + 1)) (o.getD i 0) = true) (hd : o.getD i 0 ∈ ds)
    (h : ∀ K : Act → World → Prop, Shut (∀ a' w', wpAnyLast P md ops Q S ds fuel (pre n o (i + 1)) a' w' → K a' w') → if Region.wanted oi (yielded ops a.tmps) = true then Oper.wp P oi a w K Q else K (a.put N undef) w) :
    wpAnyLast P md ops Q S ds (fuel + 1) (pre n o i) a w := last_ (pre n o (i + 1)) hi hN hc hd h
end
section
variable {P : Program} {ops : Array Oper} {o : Oper} {a : Act} {w : World} {K : Act → World → Prop} {Q : Exit → Act → World → Prop} {mty kt et : TypeId} {b n : Nat} {m : Int → Option Value}
theorem step_update {E : Prop} (hw : Region.wanted o (yielded ops a.tmps) = true) (mo x v : Operand) (hop : o.op = Op.mapUpdate mty mo x v) (hme : a.eval mo = .map (some b)) (h : MapAt w b m n)
    (hm : P.underlying mty = some (.map kt et)) (hd : P.underlying kt = some (.int .i64)) (k : Int) (hx : a.eval x = .int .i64 k)
    (hK : ∀ ob, MapAt { w with heap := w.heap.setIfInBounds b ob } b (fun j => if j = k then some (a.eval v) else m j) (if (m k).isSome then n else n + 1) →
      K (a.put o.dst undef) { w with heap := w.heap.setIfInBounds b ob }) : if Region.wanted o (yielded ops a.tmps) = true then Oper.wp P o a w K Q else E := by
  rw [if_pos hw]
  obtain ⟨ob, hrun, h1⟩ := h.store hm hd k (a.eval v)
  unfold Oper.wp
  simp [execOp, hop, hme, hx, hrun, Result.andThen]
  exact hK ob h1
end
open Go.Instr in
theorem fill_one {X Z : Array Value} {sz : Nat} (hX : X.size = sz) (hZ : Z.size = sz) : fill (fun i => some (i * sz, sz)) Z [(0, .agg X)] = some X := by
  unfold fill
  simp only [Value.cells, hX, Nat.zero_mul, Nat.zero_add, hZ]
  rw [if_neg (by simp)]
  unfold fill
  congr 1
  have key : ∀ (l : List Value) (k : Nat) (cs : Array Value), k + l.length ≤ cs.size → (l.zipIdx k).foldl (fun (cs : Array Value) x => cs.setIfInBounds x.2 x.1) cs = (cs.toList.take k ++ l ++ cs.toList.drop (k + l.length)).toArray := by
    intro l
    induction l with
    | nil => intro k cs _; simp
    | cons u l ih =>
      intro k cs hk
      simp only [List.length_cons] at hk
      rw [List.zipIdx_cons, List.foldl_cons, ih (k + 1) _ (by simp; omega)]
      congr 1
      simp only [Array.toList_setIfInBounds, List.length_cons]
      have ho : (List.take k cs.toList).length = k := by rw [List.length_take, Array.length_toList]; omega
      rw [List.drop_set_of_lt (by omega), List.take_set, List.take_add_one, List.getElem?_eq_getElem (by simp; omega), List.set_append_right _ _ (by omega), show k - (List.take k cs.toList).length = 0 from by omega]
      simp [show k + 1 + l.length = k + (l.length + 1) from by omega]
  have h := key X.toList 0 Z (by simp [hX, hZ])
  simp only [List.take_zero, List.nil_append, Nat.zero_add, Array.length_toList, hX] at h
  rw [List.drop_of_length_le (by simp [hZ]), List.append_nil] at h
  rw [← Array.foldl_toList, Array.toList_zipIdx]
  simpa using h
theorem run_lit_sec (X : Array Value) (hX : X.size = 256) (W : World) : (Instr.buildSlice 60 1 #[(0, .agg X)]).run Try.prog W = .ok (.slice (some ⟨W.heap.size, 0, none⟩) 1 1) (W.alloc (.cells X 66)) := by
  obtain ⟨z, hz1, hz2⟩ := info66
  obtain ⟨i0, hi, hzz⟩ := Option.map_eq_some_iff.1 hz1
  simp only [Prod.mk.injEq] at hzz
  obtain ⟨hi1, hi2, hi3⟩ := hzz
  have hzs : z.cells.size = 256 := by rw [hz2, List.size_toArray, encB_len]; exact zSec_ok.1
  have hf := fill_one (X := X) (Z := (Array.range 256).map (z.cells[· % z.cells.size]!)) hX (by simp)
  simp only [Instr.buildSlice, Sem.run_bind, run_underlying Try.underlying60, Result.andThen_ok, sizeOf, typeInfo, hi, hi2, zeroValue, hi1, Sem.run_pure]
  simp [hi, hi1, hi2, hf, Result.andThen, Sem.run_bind]
  rfl
section
variable {w0 w : World} {ps : List HP} {g : Nat} {D : DV}
theorem putD_ok (h : DOk (stepD D)) (h0 : stepE D = 0) {i : Nat} (hi : i < D.hs.length) (x : List Int) (hD : DOk D) : DOk (putD (stepD D) i x) := by
  obtain ⟨h1, h2, h3, h4⟩ := h
  have hne : ¬ (D.off = true ∨ D.fuse = 0) := fun q => by unfold stepE at h0; rw [if_pos q] at h0; cases h0
  refine ⟨by unfold putD; dsimp only; rw [List.length_set]; exact h1, h2, h3, fun t ht => ?_⟩
  unfold putD at ht
  dsimp only at ht
  have hs : (stepD D).steps = D.steps + 1 := by unfold stepD; rw [if_neg hne]
  have hts : (stepD D).ts = D.ts := by unfold stepD; rw [if_neg hne]
  show t.length ≤ (stepD D).steps
  rcases List.mem_or_eq_of_mem_set ht with ht | rfl
  · exact h4 t ht
  · rw [hs, hts, List.length_append]
    have : (D.ts.getD i []).length ≤ D.steps := by
      rw [List.getD_eq_getElem?_getD]
      cases hq : D.ts[i]? with
      | none => exact Nat.zero_le _
      | some t => exact hD.2.2.2 t (List.mem_of_getElem? hq)
    simp only [List.length_singleton]
    omega
theorem stepD_hs (D : DV) : (stepD D).hs = D.hs := by unfold stepD; split <;> rfl
theorem stepD_ts (D : DV) : (stepD D).ts = D.ts := by unfold stepD; split <;> rfl
def WritePost (w0 : World) (ps : List HP) (C : DV → HP) (D : DV) (s : Int) (x : List Int) (e : Ending) (w' : World) : Prop :=
  if isS D s = true ∧ x.length = 256 then (if stepE D = 0 then e = .returned (.int .i64 0) ∧ St w0 w' (C (putD (stepD D) s.toNat x) :: ps) else e = .returned (.int .i64 4) ∧ St w0 w' (C (stepD D) :: ps))
  else e = .returned (.int .i64 1) ∧ St w0 w' (C D :: ps)
def wr_T : Bool × List (List Nat × List Nat) := (true, [([], []), ([0], [0]), ([1], [1]), ([2], [2]), ([], []), ([], []), ([5], [5]), ([6], [6]), ([7], [7]), ([], []), ([8, 9], [8, 9]), ([], []), ([11], [11]), ([12], [12]), ([13], [13]), ([10, 14], [10, 14]), ([3, 4, 15, 15, 0, 1, 2, 3, 4, 5, 6, 7, 8, 9, 10, 11, 12, 13, 14, 15], [3, 4, 15])])
def wr_B : List Nat := [0, 1, 3, 7, 0, 0, 32, 96, 224, 0, 992, 0, 2048, 6144, 14336, 32736, 65535]
theorem wr_tab : rtab .any (opsOf Try.f12 5) = wr_T := by kernel_rfl
theorem wr_bits : waitsOk wr_T.2 wr_B = true := by kernel_rfl
set_option maxHeartbeats 4000000 in
set_option maxRecDepth 100000 in
theorem drive_Write.st {e1 : Nat} {A1 : Option Addr} {m1 c1 : Nat} {x : List Int} (h : St w0 w (drv g D :: row (Kd.int .u8) e1 (.slice A1 m1 c1) x :: ps)) (s : Int) (hx : ∀ y ∈ x, 0 ≤ y ∧ y < 256) (hst : D.steps < 1000000) :
    Calls Try.prog 12 #[.pointer (some ⟨g, 0, none⟩), .int .i64 s, .slice A1 m1 c1] w fun e w' => WritePost w0 (row (Kd.int .u8) e1 (.slice A1 m1 c1) x :: ps) (drv g) D s x e w' := by
  have HH := Aside0.mk h
  have HP := Aside0.mk (drv_out h).1
  have HL := Aside0.mk h.swap.row_C.1
  have HST := Aside0.mk hst
  clear h hst
  cases hi : isS D s with
  | false =>
    have HI := Aside0.mk hi
    clear hi
    go_enter Try.func12, Try.ntmps12
    go_wp2_with fail
    refine (drive_is.st HH.out s).mono ?_
    rintro e w' ⟨rfl, rfl⟩
    rw [HI.out]
    go_wp2
    go_ret
    unfold WritePost
    rw [if_neg (fun q => by rw [HI.out] at q; cases q.1)]
    exact ⟨rfl, HH.out⟩
  | true =>
    have HI := Aside0.mk hi
    clear hi
    by_cases hm : m1 = 256
    · subst hm
      have HXS := Aside0.mk (show Sec x from ⟨HL.out.symm, hx⟩)
      obtain ⟨i, rfl, hin⟩ : ∃ i : Nat, s = i ∧ i < D.hs.length := by
        have hi := HI.out
        unfold isS at hi
        simp only [Bool.and_eq_true, decide_eq_true_eq] at hi
        exact ⟨s.toNat, by omega, by omega⟩
      have HIN := Aside0.mk hin
      clear hin hx
      by_cases hE : stepE D = 0
      · have HE := Aside0.mk hE
        clear hE
        go_enter Try.func12, Try.ntmps12
        go_wp2_with fail
        refine (drive_is.st HH.out i).mono ?_
        rintro e w' ⟨rfl, rfl⟩
        rw [HI.out]
        go_wp2_with fail
        refine (drive_step.st HH.out HST.out).mono ?_
        rintro e w1 ⟨rfl, hs1⟩
        rw [HE.out]
        have HP1 := Aside0.mk (putD_ok (stepD_ok HP.out) HE.out HIN.out x HP.out)
        have HB1 := Aside0.mk (show (look D.ts i).length < 1000000 from by
          rw [look_nat, List.getD_eq_getElem?_getD]
          cases hq : D.ts[i]? with
          | none => decide
          | some t => exact Nat.lt_of_le_of_lt (HP.out.2.2.2 t (List.mem_of_getElem? hq)) HST.out)
        have HTL := Aside0.mk (show i < D.ts.length from by rw [HP.out.1]; exact HIN.out)
        obtain ⟨hp1, ⟨A, c, b, m⟩, hs1⟩ := drv_out hs1
        clear hp1
        have e1_ := stepD_hs D
        have e2_ := stepD_ts D
        obtain ⟨D1, hD1⟩ : ∃ D1, stepD D = D1 := ⟨_, rfl⟩
        rw [hD1] at hs1 HP1 e1_ e2_
        have HD1 := Aside0.mk hD1
        clear hD1
        obtain ⟨hs, ts, off, fuse, steps⟩ := D1
        dsimp only at e1_ e2_
        unfold drvM at hs1
        dsimp only at hs1
        obtain ⟨v, hv, hd, hs2⟩ := St.map_take (hs1.front 2) (i : Int)
        obtain ⟨A2, c2, hv2⟩ := (hs2.front 1).row_slice
        subst hv2
        rw [← e2_] at HB1 HTL
        clear e1_ e2_
        obtain ⟨t, ht⟩ : ∃ t, look ts (i : Int) = t := ⟨_, rfl⟩
        rw [ht] at hv hd hs2 HB1
        have HT := Aside0.mk ht
        obtain ⟨n2, hn2⟩ : ∃ n2, t.length = n2 := ⟨_, rfl⟩
        rw [hn2] at hv hd hs2 HB1
        have HN2 := Aside0.mk hn2
        have HD := Aside0.mk hd
        have HV := Aside0.mk hv
        obtain ⟨gx, hA, hrx⟩ := St.row_range (hs2.front 4) (by decide)
        subst hA
        clear hrx
        obtain ⟨hl, hhl⟩ : ∃ hl, hs.length = hl := ⟨_, rfl⟩
        rw [hhl] at hs2
        have HHL := Aside0.mk hhl
        obtain ⟨nn, hnn⟩ : ∃ nn, cntT ts = nn := ⟨_, rfl⟩
        rw [hnn] at hs2
        have HNN := Aside0.mk hnn
        have HS2 := Aside0.mk hs2.drew
        clear hs1 hs2 hv hd ht hn2 hhl hnn
        have hz1 := fun W : World => (show (zeroValue 60).run Try.prog W = .ok nilS W from by kernel_rfl)
        have HSS : Aside0 (∀ (W : World) (v : Value) (t : List (List Int)), St w0 W (mpo b nn 66 m (look ts) (some (i : Int)) none :: row kSec 66 v t :: blk g (dCells A hl c b off fuse steps) 63 :: row kSec 66 (.slice A hl c) hs :: row (Kd.int .u8) e1 (.slice (some ⟨gx, 0, none⟩) 256 c1) x :: ps) →
            (fun w' => w'.cell? ⟨g, 1, none⟩ = some (.map (some b)) ∧ (Instr.lookup 61 (.map (some b)) (.int .i64 i) false).run Try.prog w' = .ok (.slice A2 n2 c2) w' ∧ w'.rangeAt gx 0 (encB x)) W) := ⟨fun W v t H => by
          refine ⟨(drv_cells (H.front 2)).2.1, ?_, ?_⟩
          · have := (St.map_at H).look Try.underlying61 Try.underlying3 (hz1 W) (i : Int) false
            rw [if_neg (by decide), HV.out] at this
            exact this
          · obtain ⟨g', hg', hr⟩ := St.row_range (H.front 4) (by decide)
            injection hg' with hg'
            injection hg' with hg'
            subst hg'
            exact hr⟩
        have harr := fun W : World => run_arrayAt (P := Try.prog) (w := W) 66 5 256 (some ⟨gx, 0, none⟩) 256 c1 Try.underlying66 (Nat.le_refl _)
        go_upto_region 5 with fail
        clear HH HP
        refine stepStartD (fun w' => w'.cell? ⟨g, 1, none⟩ = some (.map (some b)) ∧ (Instr.lookup 61 (.map (some b)) (.int .i64 i) false).run Try.prog w' = .ok (.slice A2 n2 c2) w' ∧ w'.rangeAt gx 0 (encB x)) 17 [0, 1, 2, 3, 4, 5, 6, 7, 8, 9, 10, 11, 12, 13, 14, 15, 16] [16] wr_tab wr_bits (by kernel_rfl) rfl (HSS.out _ _ _ HS2.out) (fun HT_ HW_ hHeld => ?_)
        iterate 3 (refine stepPu (v := ?_) rfl rfl (any_of HT_.out (by kernel_rfl)) (fun _ _ _ h => h) (Or.inl ⟨by rfl, ?_⟩) (a' := ?_) ?_ ?_; rotate_left; (· intro w'; go_simp; with_reducible rfl); rotate_left; (· (simp only [Act.put, List.setIfInBounds_toArray, List.set_cons_zero, List.set_cons_succ, i64_w, i32_w]; rfl)))
        (refine stepLd (v := ?_) rfl rfl (take_ofW HT_.out HW_.out (by kernel_rfl)) (fun _ _ _ h => h) (Or.inl ⟨by rfl, ?_⟩) hHeld (a' := ?_) ?_ ?_; rotate_left; (· rintro w' ⟨s0, s1, -⟩; go_simp; with_reducible rfl); rotate_left; (· (simp only [Act.put, List.setIfInBounds_toArray, List.set_cons_zero, List.set_cons_succ, i64_w, i32_w]; rfl)))
        iterate 4 (refine stepPu (v := ?_) rfl rfl (any_of HT_.out (by kernel_rfl)) (fun _ _ _ h => h) (Or.inl ⟨by rfl, ?_⟩) (a' := ?_) ?_ ?_; rotate_left; (· intro w'; go_simp; with_reducible rfl); rotate_left; (· (simp only [Act.put, List.setIfInBounds_toArray, List.set_cons_zero, List.set_cons_succ, i64_w, i32_w]; rfl)))
        (refine stepLd (v := ?_) rfl rfl (take_ofW HT_.out HW_.out (by kernel_rfl)) (fun _ _ _ h => h) (Or.inl ⟨by rfl, ?_⟩) hHeld (a' := ?_) ?_ ?_; rotate_left; (· rintro w' ⟨s0, s1, -⟩; go_simp; with_reducible rfl); rotate_left; (· (simp only [Act.put, List.setIfInBounds_toArray, List.set_cons_zero, List.set_cons_succ, i64_w, i32_w]; rfl)))
        (refine stepPu (v := ?_) rfl rfl (any_of HT_.out (by kernel_rfl)) (fun _ _ _ h => h) (Or.inl ⟨by rfl, ?_⟩) (a' := ?_) ?_ ?_; rotate_left; (· intro w'; go_simp; with_reducible rfl); rotate_left; (· (simp only [Act.put, List.setIfInBounds_toArray, List.set_cons_zero, List.set_cons_succ, i64_w, i32_w]; rfl)))
        (refine stepLd (v := ?_) rfl rfl (take_ofW HT_.out HW_.out (by kernel_rfl)) (fun _ _ _ h => h) (Or.inl ⟨by rfl, ?_⟩) hHeld (a' := ?_) ?_ ?_; rotate_left; (· rintro w' ⟨s0, s1, -⟩; go_simp; with_reducible rfl); rotate_left; (· (simp only [Act.put, List.setIfInBounds_toArray, List.set_cons_zero, List.set_cons_succ, i64_w, i32_w]; rfl)))
        iterate 2 (refine stepPu (v := ?_) rfl rfl (any_of HT_.out (by kernel_rfl)) (fun _ _ _ h => h) (Or.inl ⟨by rfl, ?_⟩) (a' := ?_) ?_ ?_; rotate_left; (· intro w'; go_simp; with_reducible rfl); rotate_left; (· (simp only [Act.put, List.setIfInBounds_toArray, List.set_cons_zero, List.set_cons_succ, i64_w, i32_w]; rfl)))
        refine stepLd rfl rfl (take_ofW HT_.out HW_.out (by kernel_rfl)) (fun _ _ _ h => h) (yieldsIf_load_mid (by rfl) 66 (.tmp 33) rfl gx 0 rfl (encB x) _ (fun w' hS => hS.2.2) Try.underlying66 rfl (by rw [encB_len, HXS.out.1]; kernel_rfl)) hHeld (a' := ?_) ?_ ?_
        rotate_left
        · simp only [Act.put, List.setIfInBounds_toArray, List.set_cons_zero, List.set_cons_succ, i64_w, i32_w]; rfl
        refine stepOne rfl rfl (one_of HT_.out (by kernel_rfl)) (by decide) (fun K hK => ?_)
        refine Kd.R_lit_step kSec _ 66 (by rfl) rfl (xs := [x]) (inner := encB x) (ok := fun _ => True) (okp := fun _ => True) ?_ ?_ (fun _ hk => hk) trivial (Below.refl _ _) (Nat.le_refl _) (by simp) ?_
        · have := run_lit_sec (encB x).toArray (by rw [List.size_toArray, encB_len, HXS.out.1]) w1.drew
          simp [execOp, Act.eval, this, Result.andThen]
        · exact (Reps.none _ _).snoc (show kSec.M _ _ _ x (encB x) from ⟨HXS.out, rfl⟩) (by show (encB x).length = 256; rw [encB_len, HXS.out.1])
        intro vl wl hr hb hg_ hn_
        clear hg_ hn_
        have HS3 := Aside0.mk (HS2.out.row_new hb hr)
        clear hr hb
        obtain ⟨Al, cl, hel⟩ := (HS3.out).row_slice
        subst hel
        refine hK.out _ _ (HSS.out _ _ _ HS3.out.drop) (fun hHeld => ?_)
        clear hK K
        refine norm_ (a' := ?_) ?_ ?_
        rotate_left
        · show Act.put _ (some 35) _ = _
          simp only [Act.put, List.setIfInBounds_toArray, List.set_cons_zero, List.set_cons_succ, i64_w, i32_w]
          rfl
        refine stepOne rfl rfl (one_of HT_.out (by kernel_rfl)) (by decide) (fun K hK => ?_)
        refine St.append_rows_step (d := kSec) (by rfl) (.tmp 31) (.tmp 35) 60 66 _ 256 rfl Try.underlying60 (Exists.choose_spec info66).1 (by rw [(Exists.choose_spec info66).2, List.size_toArray, encB_len]; exact zSec_ok.1) (by decide) (by decide) _ t [x] Al 1 cl rfl rfl (HS3.out.front 2) (HS3.out.row_C.2.2) (fun _ _ h => h) (by have := HB1.out; have := HN2.out; omega) ?_
        intro v4 w4 hs4
        have HS4 := Aside0.mk hs4
        clear hs4
        refine hK.out _ _ (HSS.out _ _ _ (HS4.out.front 1).drop.swap) (fun hHeld => ?_)
        clear hK K
        refine norm_ (a' := ?_) ?_ ?_
        rotate_left
        · show Act.put _ (some 36) _ = _
          simp only [Act.put, List.setIfInBounds_toArray, List.set_cons_zero, List.set_cons_succ, i64_w, i32_w]
          rfl
        refine stepLast rfl rfl (one_of HT_.out (by kernel_rfl)) (by decide) (fun K hK => ?_)
        refine step_update (by rfl) (.tmp 24) (.tmp 25) (.tmp 36) rfl rfl (St.map_at (HS4.out.front 2)) Try.underlying61 Try.underlying3 (i : Int) rfl ?_
        intro ob hM
        have HS5 := Aside0.mk (St.map_put (c' := look (ts.set i (t ++ [x]))) (St.map_turn (c' := look ts) (x' := some (i : Int)) (HS4.out.front 2) hM (fun k hk => Or.inl ⟨if_neg (fun q => hk (by rw [q])), rfl, hk⟩)) (Or.inr ⟨if_pos rfl, by simp⟩) (fun k => look_set HTL.out (t ++ [x]) k))
        have HN5 := Aside0.mk (show (if (m i).isSome then nn else nn + 1) = cntT (ts.set i (t ++ [x])) from by
          have h1 := cnt_set HTL.out (t ++ [x])
          rw [HNN.out, ← look_nat, HT.out, if_neg (show ¬ t ++ [x] = [] from by simp)] at h1
          rcases HD.out with ⟨q1, q2⟩ | ⟨q1, q2⟩
          · rw [q1, if_neg (by decide)]; rw [if_pos q2] at h1; omega
          · rw [q1, if_pos (show (some (Value.slice A2 n2 c2)).isSome = true from rfl)]; rw [if_neg q2] at h1; omega)
        rw [HN5.out] at HS5
        clear hM
        refine hK.out _ _ ?_
        clear hK K
        refine done_ (done_of HT_.out (by kernel_rfl)) ?_
        go_wp2_with fail
        go_ret
        unfold WritePost
        rw [if_pos ⟨HI.out, HXS.out.1⟩, if_pos HE.out, Int.toNat_natCast, HD1.out]
        refine ⟨rfl, drv_in HP1.out (p := ⟨A, c, b, fun j => if j = (i : Int) then some v4 else m j⟩) ?_⟩
        show St w0 _ ([blk g (dCells A hs.length c b off fuse steps) _, row kSec _ (.slice A hs.length c) hs, mpo b (cntT (ts.set i (ts.getD i [] ++ [x]))) _ _ (look (ts.set i (ts.getD i [] ++ [x]))) none none] ++ _)
        rw [← look_nat ts i, HT.out, HHL.out]
        exact St.back 2 (St.drop (St.front 1 HS5.out))
      · have HE := Aside0.mk (show stepE D = 4 from by unfold stepE at hE ⊢; split <;> simp_all)
        clear hE
        go_enter Try.func12, Try.ntmps12
        go_wp2_with fail
        refine (drive_is.st HH.out i).mono ?_
        rintro e w' ⟨rfl, rfl⟩
        rw [HI.out]
        go_wp2_with fail
        refine (drive_step.st HH.out HST.out).mono ?_
        rintro e w1 ⟨rfl, hs1⟩
        have HS1 := Aside0.mk hs1
        clear hs1
        rw [HE.out]
        go_wp2_with fail
        go_ret
        unfold WritePost
        rw [if_pos ⟨HI.out, HXS.out.1⟩, if_neg (by rw [HE.out]; decide)]
        exact ⟨rfl, HS1.out⟩
    · have h6 : (((m1 : Int) != 256)) = true := by simp; omega
      have h7 : ((m1 : Int) == 256) = false := by simp; omega
      have HM := Aside0.mk hm
      clear hm
      go_enter Try.func12, Try.ntmps12
      go_wp2_with fail
      refine (drive_is.st HH.out s).mono ?_
      rintro e w' ⟨rfl, rfl⟩
      rw [HI.out]
      go_wp2_with fail
      go_ret
      unfold WritePost
      rw [if_neg (fun q => HM.out (HL.out.trans q.2))]
      exact ⟨rfl, HH.out⟩
end
end Go.Proofs.Ytoloibjdiojmlaa.P
