/- The program's Clone. -/
import Derived.Test.YtoloibjdiojmlaaDrv8
import Derived.Lib.SliceRun
namespace Go.Proofs.Ytoloibjdiojmlaa.P
open Go.RowKit Go.Proofs.YtoloibjdiojmlaaW.PrintWords Go.Proofs.YtoloibjdiojmlaaW.PrintLast Go.Proofs.YtoloibjdiojmlaaW.PrintMore Go.Proofs.Ytoloibjdiojmlaa.Sep
set_option linter.unusedVariables false
set_option linter.unusedSimpArgs false
attribute [local go_sem] max2_int min2_int max_two min_two max_three min_three max_four min_four
section
variable {P : Program} {ops : Array Oper} {Q : Exit → Act → World → Prop} {md : Region.Mode} {S : World → Prop} {ds : List Nat}
/-- Two come up beside each other: both orders. -/
theorem stepTwo {i n : Nat} {o : List Nat} (o' : List Nat) {oi oj : Oper} {Ni Nj : Tmp} {fuel : Nat} {a : Act} {w : World} (hi : ops[o.getD i 0]? = some oi) (hj : ops[o'.getD i 0]? = some oj) (hNi : oi.dst = some Ni) (hNj : oj.dst = some Nj)
    (hc : (Region.ready md ops (pre n o i) == [o.getD i 0, o'.getD i 0] && (pre n o i).setIfInBounds (o.getD i 0) true == pre n o (i + 1) && (pre n o i).setIfInBounds (o'.getD i 0) true == pre n o' (i + 1)) = true) (hdi : o.getD i 0 ∉ ds) (hdj : o'.getD i 0 ∉ ds)
    (h1 : ∀ K : Act → World → Prop, Shut (∀ a' w', S w' → (S w' → wpAnyLast P md ops Q S ds fuel (pre n o (i + 1)) a' w') → K a' w') → if Region.wanted oi (yielded ops a.tmps) = true then Oper.wp P oi a w K Q else K (a.put (some Ni) undef) w)
    (h2 : ∀ K : Act → World → Prop, Shut (∀ a' w', S w' → (S w' → wpAnyLast P md ops Q S ds fuel (pre n o' (i + 1)) a' w') → K a' w') → if Region.wanted oj (yielded ops a.tmps) = true then Oper.wp P oj a w K Q else K (a.put (some Nj) undef) w) :
    wpAnyLast P md ops Q S ds (fuel + 1) (pre n o i) a w := two_ (pre n o (i + 1)) (pre n o' (i + 1)) hi hj hNi hNj hc hdi hdj h1 h2
end
theorem step_mkmap {P : Program} {ops : Array Oper} {o : Oper} {a : Act} {Q : Exit → Act → World → Prop} {Kc : Act → World → Prop} {E : Prop} {W : World} (hw : Region.wanted o (yielded ops a.tmps) = true) (t : TypeId) (ho : o.op = .makeMap t none)
    (h : Kc (a.put o.dst (.map (some W.heap.size))) (W.alloc (.map #[] 0))) : if Region.wanted o (yielded ops a.tmps) = true then Oper.wp P o a W Kc Q else E := by
  refine step_ran (v := .map (some W.heap.size)) (w1 := W.alloc (.map #[] 0)) hw ?_ h
  simp [execOp, ho, run_mkmap, Result.andThen]
theorem run_lit_none (W : World) : (Instr.buildSlice 60 0 #[]).run Try.prog W = .ok (.slice (some ⟨W.heap.size, 0, none⟩) 0 0) (W.alloc (.cells #[] 66)) := by
  obtain ⟨z, hz1, hz2⟩ := info66
  obtain ⟨i0, hi, hzz⟩ := Option.map_eq_some_iff.1 hz1
  simp only [Prod.mk.injEq] at hzz
  obtain ⟨hi1, hi2, hi3⟩ := hzz
  simp only [Instr.buildSlice, Sem.run_bind, run_underlying Try.underlying60, Result.andThen_ok, sizeOf, typeInfo, hi, hi2, zeroValue, hi1, Sem.run_pure]
  simp [hi, hi1, hi2, Result.andThen, Sem.run_bind, Instr.fill]
  rw [show (Array.map (fun _ => (default : Value)) (Array.range 0)) = #[] from by simp]
  rfl
section
variable {w0 w : World} {ps : List HP}
set_option maxHeartbeats 1000000 in
theorem sec_Clone.st (h : St w0 w ps) {A : Option Addr} {n c : Nat} {xs : List (List Int)} (hC : Kd.C kSec w A n xs) (hn : n ≤ 1000000) :
    Calls Try.prog 36 #[.slice A n c] w fun e w' => ∃ v, e = .returned v ∧ St w0 w' (row kSec 66 v xs :: ps) := by
  have HH := Aside0.mk h
  have HC := Aside0.mk hC
  have HN := Aside0.mk hn
  have hq := fun (w : World) (a : Option Addr) (n c n' c' : Nat) => Lib.run_eql_slice_nil (P := Try.prog) w 60 66 a n c n' c' Try.underlying60
  clear h hC hn
  cases A with
  | none =>
    have h0 : n = 0 := by
      rcases Nat.eq_zero_or_pos n with h | h
      · exact h
      · obtain ⟨ad, h2, _⟩ := HC.out.2.2 h
        cases h2
    have hx : xs = [] := List.eq_nil_of_length_eq_zero (HC.out.1.trans h0)
    subst hx
    clear h0
    go_enter Try.func36, Try.ntmps36
    go_wp2
    go_ret
    exact ⟨_, rfl, HH.out.row_nil⟩
  | some ad =>
    have hlit := fun W : World => run_lit_none W
    go_enter Try.func36, Try.ntmps36
    go_wp2_with (first | ((with_reducible refine gate_dst (N := 5) rfl ?_); refine Kd.R_lit kSec _ 66 ?hg (N := 5) ?hd (xs := ([] : List (List Int))) (inner := ([] : List Value)) (ok := fun _ => True) (okp := fun _ => True) ?hr ?hp (fun _ hk => hk) trivial (Below.refl _ _) (Nat.le_refl _) (by simp) ?_; (case hg => rfl); (case hd => rfl); (case hr => (have h9 := run_lit_none w; simp [execOp, Act.eval, h9, Result.andThen])); (case hp => exact Reps.none _ _); intro vl wl hr hb hg_ hn_; clear hg_ hn_; have HE := Aside0.mk (HH.out.row_new hb hr); have HB := Aside0.mk hb; clear hr hb) | ((with_reducible refine gate_builtin (b := .append) (xs := #[.tmp 5, .tmp 6]) rfl ?_); at_builtin; refine St.append_rows (d := kSec) rfl (.tmp 5) (.tmp 6) 60 66 _ 256 rfl Try.underlying60 (Exists.choose_spec info66).1 (by rw [(Exists.choose_spec info66).2, List.size_toArray, encB_len]; exact zSec_ok.1) (by decide) (by decide) _ [] xs _ _ _ rfl rfl HE.out (Kd.C_below HC.out HB.out) (fun _ _ h => h) (show (([] : List (List Int)).length + n) * 256 ≤ 140737488355328 from by have := HN.out; simp; omega) ?_; intro v6 w6 hs6; rw [List.nil_append] at hs6; have HS6 := Aside0.mk hs6; clear hs6))
    go_ret
    exact ⟨_, rfl, HS6.out⟩
def CloneMid (ts ts' : List (List (List Int))) (ks : List Int) : Prop := ts'.length = ts.length ∧ ∀ i, i < ts.length → ts'.getD i [] = if (i : Int) ∈ ks then ts.getD i [] else []
theorem CloneMid.start (ts : List (List (List Int))) : CloneMid ts (List.replicate ts.length []) [] := by
  refine ⟨by simp, fun i hi => ?_⟩
  rw [if_neg (by simp), List.getD_eq_getElem?_getD, List.getElem?_replicate]
  split <;> rfl
theorem CloneMid.next {ts ts' : List (List (List Int))} {ks : List Int} (h : CloneMid ts ts' ks) {k : Nat} (hk : k < ts.length) : CloneMid ts (ts'.set k (ts.getD k [])) ((k : Int) :: ks) := by
  obtain ⟨h1, h2⟩ := h
  refine ⟨by rw [List.length_set, h1], fun i hi => ?_⟩
  rw [List.getD_eq_getElem?_getD]
  by_cases he : i = k
  · subst he
    rw [List.getElem?_set_self (by omega), if_pos (List.mem_cons_self ..)]
    rfl
  · rw [List.getElem?_set_ne (fun q => he q.symm), ← List.getD_eq_getElem?_getD, h2 i hi]
    by_cases hm : (i : Int) ∈ ks
    · rw [if_pos hm, if_pos (List.mem_cons_of_mem _ hm)]
    · rw [if_neg hm, if_neg (fun q => by
        rcases List.mem_cons.1 q with q | q
        · exact he (by omega)
        · exact hm q)]
theorem CloneMid.stop {ts ts' : List (List (List Int))} {ks : List Int} (h : CloneMid ts ts' ks) (hall : ∀ k, look ts k ≠ [] → k ∈ ks) : ts' = ts := by
  obtain ⟨h1, h2⟩ := h
  apply List.ext_getElem h1
  intro i hi hi'
  have h3 := h2 i hi'
  rw [List.getD_eq_getElem?_getD, List.getElem?_eq_getElem hi, List.getD_eq_getElem?_getD, List.getElem?_eq_getElem hi'] at h3
  simp only [Option.getD_some] at h3
  rw [h3]
  by_cases hm : (i : Int) ∈ ks
  · rw [if_pos hm]
  · rw [if_neg hm]
    by_cases he : ts[i] = []
    · exact he.symm
    · refine absurd (hall i ?_) hm
      rw [look_nat, List.getD_eq_getElem?_getD, List.getElem?_eq_getElem hi']
      exact he
variable {g : Nat} {D : DV}
def cl_T : Bool × List (List Nat × List Nat) := (true, [([], []), ([0], [0]), ([1], [1]), ([2], [2]), ([3], [3]), ([], []), ([], []), ([6], [6]), ([7], [7]), ([8], [8]), ([], []), ([10], [10]), ([11], [11]), ([12], [12]), ([], []), ([14], [14]), ([15], [15]), ([16], [16]), ([4, 5, 9, 13, 17], [4, 5, 9, 13, 17]), ([18], [18]), ([19, 4, 0, 1, 2, 3, 4, 5, 6, 7, 8, 9, 10, 11, 12, 13, 14, 15, 16, 17, 18, 19], [19])])
def cl_B : List Nat := [0, 1, 3, 7, 15, 0, 0, 64, 192, 448, 0, 1024, 3072, 7168, 0, 16384, 49152, 114688, 262143, 524287, 1048575]
theorem cl_tab : rtab .any (opsOf Try.f29 1) = cl_T := by kernel_rfl
theorem cl_bits : waitsOk cl_T.2 cl_B = true := by kernel_rfl
def cm_T : Bool × List (List Nat × List Nat) := (true, [([], []), ([0], [0]), ([1], [1]), ([2], [2]), ([], []), ([], []), ([5], [5]), ([3, 4, 6, 6, 0, 1, 2, 3, 4, 5, 6], [3, 4, 6])])
def cm_B : List Nat := [0, 1, 3, 7, 0, 0, 32, 127]
theorem cm_tab : rtab .any (opsOf Try.f29 5) = cm_T := by kernel_rfl
theorem cm_bits : waitsOk cm_T.2 cm_B = true := by kernel_rfl
set_option maxHeartbeats 8000000 in
set_option maxRecDepth 100000 in
theorem drive_Clone.st (h : St w0 w (drv g D :: ps)) (hst : D.steps < 1000000) :
    Calls Try.prog 29 #[.pointer (some ⟨g, 0, none⟩)] w fun e w' => ∃ g', e = .returned (.pointer (some ⟨g', 0, none⟩)) ∧ St w0 w' (drv g' D :: drv g D :: ps) := by
  have HST := Aside0.mk hst
  obtain ⟨hp, ⟨A, c, b, m⟩, hs1⟩ := drv_out h
  have HP := Aside0.mk hp
  have HTH := Aside0.mk hp.1
  have HLB := Aside0.mk hp.2.1
  clear h hst hp
  obtain ⟨hs, ts, off, fuse, steps⟩ := D
  unfold drvM at hs1
  dsimp only at hs1 HTH HST HLB
  obtain ⟨hl, hhl⟩ : ∃ hl, hs.length = hl := ⟨_, rfl⟩
  obtain ⟨nn, hnn⟩ : ∃ nn, cntT ts = nn := ⟨_, rfl⟩
  rw [hhl, hnn] at hs1
  rw [hhl] at HTH HLB
  have HHL := Aside0.mk hhl
  have HNN := Aside0.mk hnn
  have HS1 := Aside0.mk (show St w0 w (blk g (dCells A hl c b off fuse steps) 63 :: row kSec 66 (.slice A hl c) hs :: mpo b nn 66 m (look ts) none none :: ps) from hs1)
  clear hs1 hhl hnn
  have HSS : Aside0 (∀ W (ps' qs : List Sep.HP), St w0 W (qs ++ (blk g (dCells A hl c b off fuse steps) 63 :: ps')) → W.cell? ⟨g, 0, none⟩ = some (.slice A hl c) ∧ W.cell? ⟨g, 2, none⟩ = some (.bool off) ∧ W.cell? ⟨g, 3, none⟩ = some (.int .i64 fuse) ∧ W.cell? ⟨g, 4, none⟩ = some (.int .i64 steps)) := ⟨fun W ps' qs H => by
    obtain ⟨k0, k1, k2, k3, k4⟩ := drv_cells (St.drop_to qs H)
    exact ⟨k0, k2, k3, k4⟩⟩
  go_enter Try.func29, Try.ntmps29
  go_upto_region 1 with fail
  go_cut [3] (fun v wx => ∃ (g' : Nat) (A' : Option Addr) (c' b' : Nat), v = .pointer (some ⟨g', 0, none⟩) ∧ Aside0 (St w0 wx (blk g' (dCells A' hl c' b' off fuse steps) 63 :: row kSec 66 (.slice A' hl c') hs :: mpo b' 0 66 (fun _ => none) (look (List.replicate hl [])) none none :: blk g (dCells A hl c b off fuse steps) 63 :: row kSec 66 (.slice A hl c) hs :: mpo b nn 66 m (look ts) none none :: ps)))
  case first =>
    refine stepStart (fun W : World => W.cell? ⟨g, 0, none⟩ = some (.slice A hl c) ∧ W.cell? ⟨g, 2, none⟩ = some (.bool off) ∧ W.cell? ⟨g, 3, none⟩ = some (.int .i64 fuse) ∧ W.cell? ⟨g, 4, none⟩ = some (.int .i64 steps)) 21 [0, 1, 2, 3, 6, 7, 8, 9, 10, 11, 12, 13, 14, 15, 16, 17, 4, 5, 18, 19, 20] cl_tab cl_bits (by kernel_rfl) rfl (HSS.out _ _ [] HS1.out.drew) (fun HT_ HW_ hHeld => ?_)
    iterate 3 (refine stepPu (v := ?_) rfl rfl (any_of HT_.out (by kernel_rfl)) (fun _ _ _ h => h) (Or.inl ⟨by rfl, ?_⟩) (a' := ?_) ?_ ?_; rotate_left; (· intro w'; go_simp; with_reducible rfl); rotate_left; (· (simp only [Act.put, List.setIfInBounds_toArray, List.set_cons_zero, List.set_cons_succ, i64_w, i32_w]; rfl)))
    (refine stepLd (v := ?_) rfl rfl (take_ofW HT_.out HW_.out (by kernel_rfl)) (fun _ _ _ h => h) (Or.inl ⟨by rfl, ?_⟩) hHeld (a' := ?_) ?_ ?_; rotate_left; (· rintro w' ⟨s0, s1, s2, s3⟩; go_simp; with_reducible rfl); rotate_left; (· (simp only [Act.put, List.setIfInBounds_toArray, List.set_cons_zero, List.set_cons_succ, i64_w, i32_w]; rfl)))
    iterate 3 (refine stepPu (v := ?_) rfl rfl (any_of HT_.out (by kernel_rfl)) (fun _ _ _ h => h) (Or.inl ⟨by rfl, ?_⟩) (a' := ?_) ?_ ?_; rotate_left; (· intro w'; go_simp; with_reducible rfl); rotate_left; (· (simp only [Act.put, List.setIfInBounds_toArray, List.set_cons_zero, List.set_cons_succ, i64_w, i32_w]; rfl)))
    (refine stepLd (v := ?_) rfl rfl (take_ofW HT_.out HW_.out (by kernel_rfl)) (fun _ _ _ h => h) (Or.inl ⟨by rfl, ?_⟩) hHeld (a' := ?_) ?_ ?_; rotate_left; (· rintro w' ⟨s0, s1, s2, s3⟩; go_simp; with_reducible rfl); rotate_left; (· (simp only [Act.put, List.setIfInBounds_toArray, List.set_cons_zero, List.set_cons_succ, i64_w, i32_w]; rfl)))
    iterate 3 (refine stepPu (v := ?_) rfl rfl (any_of HT_.out (by kernel_rfl)) (fun _ _ _ h => h) (Or.inl ⟨by rfl, ?_⟩) (a' := ?_) ?_ ?_; rotate_left; (· intro w'; go_simp; with_reducible rfl); rotate_left; (· (simp only [Act.put, List.setIfInBounds_toArray, List.set_cons_zero, List.set_cons_succ, i64_w, i32_w]; rfl)))
    (refine stepLd (v := ?_) rfl rfl (take_ofW HT_.out HW_.out (by kernel_rfl)) (fun _ _ _ h => h) (Or.inl ⟨by rfl, ?_⟩) hHeld (a' := ?_) ?_ ?_; rotate_left; (· rintro w' ⟨s0, s1, s2, s3⟩; go_simp; with_reducible rfl); rotate_left; (· (simp only [Act.put, List.setIfInBounds_toArray, List.set_cons_zero, List.set_cons_succ, i64_w, i32_w]; rfl)))
    iterate 3 (refine stepPu (v := ?_) rfl rfl (any_of HT_.out (by kernel_rfl)) (fun _ _ _ h => h) (Or.inl ⟨by rfl, ?_⟩) (a' := ?_) ?_ ?_; rotate_left; (· intro w'; go_simp; with_reducible rfl); rotate_left; (· (simp only [Act.put, List.setIfInBounds_toArray, List.set_cons_zero, List.set_cons_succ, i64_w, i32_w]; rfl)))
    (refine stepLd (v := ?_) rfl rfl (take_ofW HT_.out HW_.out (by kernel_rfl)) (fun _ _ _ h => h) (Or.inl ⟨by rfl, ?_⟩) hHeld (a' := ?_) ?_ ?_; rotate_left; (· rintro w' ⟨s0, s1, s2, s3⟩; go_simp; with_reducible rfl); rotate_left; (· (simp only [Act.put, List.setIfInBounds_toArray, List.set_cons_zero, List.set_cons_succ, i64_w, i32_w]; rfl)))
    refine stepTwo [0, 1, 2, 3, 6, 7, 8, 9, 10, 11, 12, 13, 14, 15, 16, 17, 5, 4, 18, 19, 20] rfl rfl rfl rfl (two_of HT_.out (by kernel_rfl)) (by decide) (by decide) (fun K hK => ?_) (fun K hK => ?_)
    · refine goes_ Try.func36 (by kernel_rfl) rfl #[.slice A hl c] (by rfl) rfl rfl (by first | rfl | (simp only [List.map_toArray, List.map_cons, List.map_nil]; rfl)) ?_
      with_reducible refine (sec_Clone.st HS1.out.drew ((HS1.out.drew.front 1)).row_C.2.2 (by have := HLB.out; omega)).mono ?_
      rintro e w2 ⟨v, rfl, hv⟩
      refine ⟨_, rfl, ?_⟩
      obtain ⟨A1, c1, he1⟩ := hv.row_slice
      rw [HHL.out] at he1
      subst he1
      have HA := Aside0.mk hv
      clear hv
      refine hK.out _ _ (HSS.out _ _ [_] HA.out) (fun hHeld => ?_)
      clear hK K
      refine norm_ (a' := ?_) ?_ ?_
      rotate_left
      · show Act.put _ (some 10) _ = _
        simp only [Act.put, List.setIfInBounds_toArray, List.set_cons_zero, List.set_cons_succ, i64_w, i32_w]
        rfl
      refine stepOne rfl rfl (one_of HT_.out (by kernel_rfl)) (by decide) (fun K hK => ?_)
      refine step_mkmap (by rfl) _ rfl ?_
      refine hK.out _ _ (HSS.out _ _ [_, _] (mpo_new (e := 66) HA.out hl)) (fun hHeld => ?_)
      clear hK K
      refine norm_ (a' := ?_) ?_ ?_
      rotate_left
      · show Act.put _ (some 11) _ = _
        simp only [Act.put, List.setIfInBounds_toArray, List.set_cons_zero, List.set_cons_succ, i64_w, i32_w]
        rfl
      (refine stepPu (v := ?_) rfl rfl (any_of HT_.out (by kernel_rfl)) (fun _ _ _ h => h) (Or.inl ⟨by rfl, ?_⟩) (a' := ?_) ?_ ?_; rotate_left; (· intro w'; go_simp; with_reducible rfl); rotate_left; (· (simp only [Act.put, List.setIfInBounds_toArray, List.set_cons_zero, List.set_cons_succ, i64_w, i32_w]; rfl)))
      refine stepOne rfl rfl (one_of HT_.out (by kernel_rfl)) (by decide) (fun K hK => ?_)
      refine step_ran (v := .pointer (some ⟨(w2.alloc (.map #[] 0)).heap.size, 0, none⟩)) (w1 := (w2.alloc (.map #[] 0)).alloc (.cells (dCells A1 hl c1 w2.heap.size off fuse steps) 63)) (by rfl) (by first | (go_simp; done) | (go_simp; rfl)) ?_
      refine hK.out _ _ (HSS.out _ _ [_, _, _] ((mpo_new (e := 66) HA.out hl).alloc_ (dCells A1 hl c1 w2.heap.size off fuse steps) 63)) (fun hHeld => ?_)
      clear hK K
      refine norm_ (a' := ?_) ?_ ?_
      rotate_left
      · show Act.put _ (some 25) _ = _
        simp only [Act.put, List.setIfInBounds_toArray, List.set_cons_zero, List.set_cons_succ, i64_w, i32_w]
        rfl
      (refine stepPu (v := ?_) rfl rfl (any_of HT_.out (by kernel_rfl)) (fun _ _ _ h => h) (Or.inl ⟨by rfl, ?_⟩) (a' := ?_) ?_ ?_; rotate_left; (· intro w'; go_simp; with_reducible rfl); rotate_left; (· (simp only [Act.put, List.setIfInBounds_toArray, List.set_cons_zero, List.set_cons_succ, i64_w, i32_w]; rfl)))
      refine done_ (done_of HT_.out (by kernel_rfl)) ?_
      clear HT_ HW_ hHeld
      go_wp2_with fail
      go_meet
      have hz : (w2.alloc (.map #[] 0)).heap.size = w2.heap.size + 1 := by simp
      have h9 := St.cons_swap ((mpo_new (e := 66) HA.out hl).alloc_ (dCells A1 hl c1 w2.heap.size off fuse steps) 63)
      rw [hz] at h9
      exact ⟨_, A1, c1, w2.heap.size, rfl, ⟨h9⟩⟩
    · refine step_mkmap (by rfl) _ rfl ?_
      refine hK.out _ _ (HSS.out _ _ [_] (mpo_new (e := 66) HS1.out.drew hl)) (fun hHeld => ?_)
      clear hK K
      refine norm_ (a' := ?_) ?_ ?_
      rotate_left
      · show Act.put _ (some 11) _ = _
        simp only [Act.put, List.setIfInBounds_toArray, List.set_cons_zero, List.set_cons_succ, i64_w, i32_w]
        rfl
      refine stepOne rfl rfl (one_of HT_.out (by kernel_rfl)) (by decide) (fun K hK => ?_)
      refine goes_ Try.func36 (by kernel_rfl) rfl #[.slice A hl c] (by rfl) rfl rfl (by first | rfl | (simp only [List.map_toArray, List.map_cons, List.map_nil]; rfl)) ?_
      with_reducible refine (sec_Clone.st (mpo_new (e := 66) HS1.out.drew hl) (((mpo_new (e := 66) HS1.out.drew hl).front 2)).row_C.2.2 (by have := HLB.out; omega)).mono ?_
      rintro e w2 ⟨v, rfl, hv⟩
      refine ⟨_, rfl, ?_⟩
      obtain ⟨A1, c1, he1⟩ := hv.row_slice
      rw [HHL.out] at he1
      subst he1
      have HA := Aside0.mk hv
      clear hv
      refine hK.out _ _ (HSS.out _ _ [_, _] HA.out) (fun hHeld => ?_)
      clear hK K
      refine norm_ (a' := ?_) ?_ ?_
      rotate_left
      · show Act.put _ (some 10) _ = _
        simp only [Act.put, List.setIfInBounds_toArray, List.set_cons_zero, List.set_cons_succ, i64_w, i32_w]
        rfl
      (refine stepPu (v := ?_) rfl rfl (any_of HT_.out (by kernel_rfl)) (fun _ _ _ h => h) (Or.inl ⟨by rfl, ?_⟩) (a' := ?_) ?_ ?_; rotate_left; (· intro w'; go_simp; with_reducible rfl); rotate_left; (· (simp only [Act.put, List.setIfInBounds_toArray, List.set_cons_zero, List.set_cons_succ, i64_w, i32_w]; rfl)))
      refine stepOne rfl rfl (one_of HT_.out (by kernel_rfl)) (by decide) (fun K hK => ?_)
      refine step_ran (v := .pointer (some ⟨w2.heap.size, 0, none⟩)) (w1 := w2.alloc (.cells (dCells A1 hl c1 w.drew.heap.size off fuse steps) 63)) (by rfl) (by first | (go_simp; done) | (go_simp; rfl)) ?_
      refine hK.out _ _ (HSS.out _ _ [_, _, _] (HA.out.alloc_ (dCells A1 hl c1 w.drew.heap.size off fuse steps) 63)) (fun hHeld => ?_)
      clear hK K
      refine norm_ (a' := ?_) ?_ ?_
      rotate_left
      · show Act.put _ (some 25) _ = _
        simp only [Act.put, List.setIfInBounds_toArray, List.set_cons_zero, List.set_cons_succ, i64_w, i32_w]
        rfl
      (refine stepPu (v := ?_) rfl rfl (any_of HT_.out (by kernel_rfl)) (fun _ _ _ h => h) (Or.inl ⟨by rfl, ?_⟩) (a' := ?_) ?_ ?_; rotate_left; (· intro w'; go_simp; with_reducible rfl); rotate_left; (· (simp only [Act.put, List.setIfInBounds_toArray, List.set_cons_zero, List.set_cons_succ, i64_w, i32_w]; rfl)))
      refine done_ (done_of HT_.out (by kernel_rfl)) ?_
      clear HT_ HW_ hHeld
      go_wp2_with fail
      go_meet
      exact ⟨_, A1, c1, w.drew.heap.size, rfl, ⟨HA.out.alloc_ (dCells A1 hl c1 w.drew.heap.size off fuse steps) 63⟩⟩
  case rest =>
    clear HS1 HSS
    obtain ⟨g1, A1, c1, b1, rfl, HS⟩ := hcut
    have HS2 := Aside0.mk (HS.out.front 5)
    have k1 := (drv_cells (HS.out.front 3)).2.1
    go_wp2_with ((with_reducible refine gate_dst (N := 30) rfl ?_); refine wpList_range_at rfl (.tmp 29) rfl rfl (St.map_at HS2.out) Try.underlying61 ?_; intro ob hG)
    have HG := Aside0.mk (St.map_begin HS2.out hG)
    clear hG HS HS2 k1
    obtain ⟨r, hr⟩ : ∃ r, wc.heap.size = r := ⟨_, rfl⟩
    rw [hr] at HG
    simp only [hr, Act.put, List.setIfInBounds_toArray, List.set_cons_zero, List.set_cons_succ]
    go_loopw [4, 5] (fun _ _ wr => ∃ (ks : List Int) (ts' : List (List (List Int))) (m' : Int → Option Value), Aside0 (CloneMid ts ts' ks) ∧ Aside0 (St w0 wr (mpo b nn 66 m (look ts) none (some (r, ks)) :: mpo b1 (cntT ts') 66 m' (look ts') none none :: blk g1 (dCells A1 hl c1 b1 off fuse steps) 63 :: row kSec 66 (.slice A1 hl c1) hs :: blk g (dCells A hl c b off fuse steps) 63 :: row kSec 66 (.slice A hl c) hs :: ps))) (fun _ _ wr => nn - iterLen wr r)
    case atStart => exact ⟨[], List.replicate hl [], fun _ => none, ⟨by rw [← HTH.out]; exact CloneMid.start ts⟩, ⟨by rw [cnt_none]; exact St.swap (HG.out.front 3)⟩⟩
    case round =>
      clear HG
      obtain ⟨ks, ts', m', HM, HS⟩ := hrel
      go_wp2_with ((with_reducible refine gate_dst (N := 31) rfl ?_); refine wpList_next_at rfl (.tmp 30) rfl rfl (St.map_going HS.out) ?_ ?_)
      · intro hall
        have HALL := Aside0.mk (show ∀ k, look ts k ≠ [] → k ∈ ks from fun k hk => by
          have := (St.map_isSome HS.out k).2 hk
          obtain ⟨v, hv⟩ := Option.isSome_iff_exists.1 this
          exact hall k v hv)
        have HS0 := Aside0.mk (St.map_stop HS.out)
        have HEQ := Aside0.mk (HM.out.stop HALL.out)
        clear hall
        go_wp2_with fail
        go_ret
        refine ⟨g1, rfl, ?_⟩
        have h0 := HS0.out
        rw [HEQ.out, ← HHL.out, HNN.out, ← HNN.out] at h0
        have a1 := (h0.front 5).front 5
        have a2 := drv_in (D := ⟨hs, ts, off, fuse, steps⟩) HP.out (p := ⟨A, c, b, m⟩) (g := g) a1
        exact drv_in (D := ⟨hs, ts, off, fuse, steps⟩) HP.out (p := ⟨A1, c1, b1, m'⟩) (((a2.front 1).front 3).front 3)
      · intro k v ob w2 hmk hnk hlt hw hen hG
        have HS2 := Aside0.mk (St.map_next HS.out hw hG)
        have HME := Aside0.mk (show nn - (k :: ks).length < nn - iterLen wr r from by
          rw [(St.map_going HS.out).iterLen, List.length_cons]
          omega)
        have hck := (St.map_isSome HS.out k).1 (by rw [hmk]; rfl)
        clear hw hG HS hnk hlt
        obtain ⟨wn, hwn⟩ : ∃ wn, Go.ChangeMaps.setBlock w2 r ob = wn := ⟨_, rfl⟩
        rw [hwn] at hen HS2 ⊢
        clear hwn w2
        obtain ⟨i, rfl, hi⟩ := look_in hck
        obtain ⟨v', hv, hd, hs3⟩ := St.map_take HS2.out.drew (i : Int)
        rw [hmk] at hv
        obtain rfl : v = v' := hv
        obtain ⟨A2, c2, hv2⟩ := (hs3.front 1).row_slice
        subst hv2
        obtain ⟨t, ht⟩ : ∃ t, look ts (i : Int) = t := ⟨_, rfl⟩
        have HLT := Aside0.mk (show t.length ≤ 1000000 from by
          rw [← ht, look_nat, List.getD_eq_getElem?_getD, List.getElem?_eq_getElem hi]
          exact Nat.le_trans (HP.out.2.2.2 _ (List.getElem_mem hi)) (Nat.le_of_lt HST.out))
        rw [ht] at hd hs3 hck hen hmk
        have HT := Aside0.mk ht
        obtain ⟨n2, hn2⟩ : ∃ n2, t.length = n2 := ⟨_, rfl⟩
        rw [hn2] at hd hs3 hen hmk HLT
        have HS3 := Aside0.mk hs3
        have HD := Aside0.mk hd
        have HCK := Aside0.mk hck
        have HI := Aside0.mk (show i < ts'.length from by rw [HM.out.1]; exact hi)
        have HM2 := Aside0.mk (show CloneMid ts (ts'.set i t) ((i : Int) :: ks) from by
          have := HM.out.next hi
          rw [← look_nat, HT.out] at this
          exact this)
        clear hd hs3 hck hmk ht hn2 hi
        have HSS : Aside0 (∀ W (ps' qs : List Sep.HP), St w0 W (qs ++ (blk g1 (dCells A1 hl c1 b1 off fuse steps) 63 :: ps')) → W.cell? ⟨g1, 1, none⟩ = some (.map (some b1))) := ⟨fun W ps' qs H => (drv_cells (St.drop_to qs H)).2.1⟩
        go_upto_region 5 with fail
        clear hen
        refine stepStartD (fun W : World => W.cell? ⟨g1, 1, none⟩ = some (.map (some b1))) 8 [0, 1, 2, 3, 4, 5, 6, 7] [7] cm_tab cm_bits (by kernel_rfl) rfl (HSS.out _ _ [_, _, _] HS3.out) (fun HT_ HW_ hHeld => ?_)
        iterate 3 (refine stepPu (v := ?_) rfl rfl (any_of HT_.out (by kernel_rfl)) (fun _ _ _ h => h) (Or.inl ⟨by rfl, ?_⟩) (a' := ?_) ?_ ?_; rotate_left; (· intro w'; go_simp; with_reducible rfl); rotate_left; (· (simp only [Act.put, List.setIfInBounds_toArray, List.set_cons_zero, List.set_cons_succ, i64_w, i32_w]; rfl)))
        (refine stepLd (v := ?_) rfl rfl (take_ofW HT_.out HW_.out (by kernel_rfl)) (fun _ _ _ h => h) (Or.inl ⟨by rfl, ?_⟩) hHeld (a' := ?_) ?_ ?_; rotate_left; (· rintro w' s0; go_simp; with_reducible rfl); rotate_left; (· (simp only [Act.put, List.setIfInBounds_toArray, List.set_cons_zero, List.set_cons_succ, i64_w, i32_w]; rfl)))
        iterate 2 (refine stepPu (v := ?_) rfl rfl (any_of HT_.out (by kernel_rfl)) (fun _ _ _ h => h) (Or.inl ⟨by rfl, ?_⟩) (a' := ?_) ?_ ?_; rotate_left; (· intro w'; go_simp; with_reducible rfl); rotate_left; (· (simp only [Act.put, List.setIfInBounds_toArray, List.set_cons_zero, List.set_cons_succ, i64_w, i32_w]; rfl)))
        refine stepOne rfl rfl (one_of HT_.out (by kernel_rfl)) (by decide) (fun K hK => ?_)
        refine goes_ Try.func36 (by kernel_rfl) rfl #[.slice A2 n2 c2] (by rfl) rfl rfl (by first | rfl | (simp only [List.map_toArray, List.map_cons, List.map_nil]; rfl)) ?_
        with_reducible refine (sec_Clone.st HS3.out (HS3.out.front 1).row_C.2.2 HLT.out).mono ?_
        rintro e w4 ⟨v, rfl, hv⟩
        refine ⟨_, rfl, ?_⟩
        have HC := Aside0.mk hv
        clear hv
        refine hK.out _ _ (HSS.out _ _ [_, _, _, _] HC.out) (fun hHeld => ?_)
        clear hK K
        refine norm_ (a' := ?_) ?_ ?_
        rotate_left
        · show Act.put _ (some 42) _ = _
          simp only [Act.put, List.setIfInBounds_toArray, List.set_cons_zero, List.set_cons_succ, i64_w, i32_w]
          rfl
        refine stepLast rfl rfl (one_of HT_.out (by kernel_rfl)) (by decide) (fun K hK => ?_)
        refine step_update (by rfl) (.tmp 39) (.tmp 40) (.tmp 42) rfl rfl (St.map_at (HC.out.front 3)) Try.underlying61 Try.underlying3 (i : Int) rfl ?_
        intro ob2 hM
        have hsome := St.map_isSome (HC.out.front 3) (i : Int)
        have hN5 : (if (m' (i : Int)).isSome then cntT ts' else cntT ts' + 1) = cntT (ts'.set i t) := by
          have h1 := cnt_set HI.out t
          rw [look_nat] at hsome
          rw [if_neg HCK.out] at h1
          by_cases hq : ts'.getD i [] = []
          · rw [if_pos hq] at h1
            rw [if_neg (fun q => (hsome.1 q) hq)]
            omega
          · rw [if_neg hq] at h1
            rw [if_pos (hsome.2 hq)]
            omega
        have b1_ := St.map_turn (c' := look ts') (x' := some (i : Int)) (HC.out.front 3) hM (fun k hk => Or.inl ⟨if_neg (fun q => hk (by rw [q])), rfl, by simp⟩)
        have b2_ := St.map_put (c' := look (ts'.set i t)) b1_ (Or.inr ⟨if_pos rfl, HCK.out⟩) (fun k => look_set HI.out t k)
        rw [hN5] at b2_
        have HFIN := Aside0.mk (St.map_put (c' := look ts) (St.cons_swap (St.front 1 b2_)) HD.out (fun k => by
          split
          · next q => rw [q, HT.out]
          · rfl))
        clear b1_ b2_ hN5 hsome hM
        refine hK.out _ _ ?_
        clear hK K
        refine done_ (done_of HT_.out (by kernel_rfl)) ?_
        clear HT_ HW_ hHeld HSS
        simp only [Act.put]
        go_wp2_with fail
        go_roundw
        case rel => exact ⟨(i : Int) :: ks, ts'.set i t, _, HM2, HFIN⟩
        case measure =>
          have h1 := (St.map_going HFIN.out).iterLen
          rw [h1]
          exact HME.out
end
end Go.Proofs.Ytoloibjdiojmlaa.P
