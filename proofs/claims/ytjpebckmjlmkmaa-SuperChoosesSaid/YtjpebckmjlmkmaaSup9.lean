/- Superblocks' places in memory: nothing at all, stores, copies, '==' of labels. -/
import Derived.Test.YtjpebckmjlmkmaaSup6
import Derived.Test.YtjpebckmjlmkmaaSup8
import Derived.Deep.CutBlock
namespace Go.Proofs.Ytjpebckmjlmkmaa.P
open Go.RowKit Go.Proofs.YtjpebckmjlmkmaaW.PrintWords Go.Proofs.YtjpebckmjlmkmaaW.PrintLast Go.Proofs.YtjpebckmjlmkmaaW.PrintMore Go.Proofs.Ytjpebckmjlmkmaa.NumLem Go.Proofs.Ytjpebckmjlmkmaa.SealLem Go.Proofs.Ytjpebckmjlmkmaa.Sep
set_option linter.unusedVariables false
set_option linter.unusedSimpArgs false
def supZ : SupS := ⟨0, 0, 0, List.replicate 8 .zero⟩
def Z35 : Array Value := #[.int .i64 0, .int .i64 0, .int .i64 0, .string { data := #[] }, .bool false, .int .i64 0, .int .i64 0, .string { data := #[] }, .bool false, .int .i64 0, .int .i64 0, .string { data := #[] }, .bool false, .int .i64 0, .int .i64 0, .string { data := #[] }, .bool false, .int .i64 0, .int .i64 0, .string { data := #[] }, .bool false, .int .i64 0, .int .i64 0, .string { data := #[] }, .bool false, .int .i64 0, .int .i64 0, .string { data := #[] }, .bool false, .int .i64 0, .int .i64 0, .string { data := #[] }, .bool false, .int .i64 0, .int .i64 0]
theorem Z35_is : Z35 = supZ.cells.toArray := rfl
theorem Z35_one (v : Value) (hv : v ∈ Z35.toList) : v.oneCell' = true := by
  rw [Z35_is] at hv
  exact cells_one supZ v (by simpa using hv)
def supOf (r : Option SupS) : SupS := r.getD supZ
def errOf (r : Option SupS) : Int := if r.isSome = true then 0 else 3
def ReadPost (w0 : World) (ps : List HP) (r : Option SupS) (e : Ending) (w' : World) : Prop := e = .returned (.tuple #[.agg (supOf r).cells.toArray, .int .i64 (errOf r)]) ∧ St w0 w' ps
theorem blk_row_set {w0 w : World} {ps : List HP} {g t : Nat} {cs : Array Value} (h : St w0 w (blk g cs t :: ps)) (cs' : Array Value) : St w0 (w.setRow g cs') (blk g cs' t :: ps) := by
  obtain ⟨F, hF, hp, hst⟩ := h.out
  exact hst (qs := [blk g cs' t]) (F' := F) ⟨rfl, rfl, rfl, by simp, fun i hi hni => setRow_other _ _ _ _ (fun e => hni (e ▸ hp.1)), fun _ h => Or.inl h⟩ (Sep.one (fun k hk => by simpa using (hF k hk).2) ⟨hp.1, setRow_heap _ _ _ _ _ _ hp.2⟩)
theorem wpAnyH_norm {P : Program} {md : Region.Mode} {ops : Array Oper} {Q : Exit → Act → World → Prop} {S : World → Prop} {fuel : Nat} {l : Array Bool} {a a' : Act} {w : World} (ha : a = a') (h : wpAnyH P md ops Q S fuel l a' w) : wpAnyH P md ops Q S fuel l a w := by
  subst ha
  exact h
theorem step_store_row {P : Program} {ops : Array Oper} {o : Oper} {a : Act} {w : World} {K : Act → World → Prop} {Q : Exit → Act → World → Prop} {E : Prop} (hgd : o.guard = none) (ty : TypeId) (x y : Operand) (ho : o.op = .store ty x y)
    (g : Nat) (hx : a.eval x = .pointer (some ⟨g, 0, none⟩)) (cs : Array Value) (hy : a.eval y = .agg cs) (t : TypeId) (cur : Array Value) (hg : w.heap[g]? = some (.cells cur t (0, 0)))
    (hi : (P.info? ty).map (·.size) = some cs.size) (hz : cs.size = cur.size) (h1 : ∀ v ∈ cs.toList, v.oneCell' = true)
    (h : K (a.put o.dst undef) (w.setRow g cs)) : if Region.wanted o (yielded ops a.tmps) = true then Oper.wp P o a w K Q else E := by
  have hw : Region.wanted o (yielded ops a.tmps) = true := by simp [Region.wanted, hgd]
  rw [if_pos hw]
  unfold Oper.wp
  simp [execOp, ho, hx, hy, Instr.storeAt, Instr.sureAddr, Own.run_storeVar_row w g t ty cur cs hg hi hz h1, Result.andThen]
  exact h
theorem cells_log (gen sec x lg : Int) (vs : List VolS) : (SupS.cells ⟨gen, sec, x, vs⟩).toArray.setIfInBounds 2 (.int .i64 lg) = (SupS.cells ⟨gen, sec, lg, vs⟩).toArray := by
  rw [List.setIfInBounds_toArray]
  rfl
theorem cells_sectors (gen x lg sec : Int) (vs : List VolS) : (SupS.cells ⟨gen, x, lg, vs⟩).toArray.setIfInBounds 1 (.int .i64 sec) = (SupS.cells ⟨gen, sec, lg, vs⟩).toArray := by
  rw [List.setIfInBounds_toArray]
  rfl
theorem volsC_set : ∀ (l : List VolS) (i : Nat) (v : VolS), i < l.length → (((((volsC l).set (4 * i) (.string v.name)).set (4 * i + 1) (.bool v.ro)).set (4 * i + 2) (.int .i64 v.root)).set (4 * i + 3) (.int .i64 v.next)) = volsC (l.set i v)
  | [], i, v, h => absurd h (Nat.not_lt_zero _)
  | u :: l, 0, v, h => rfl
  | u :: l, i + 1, v, h => by
    have ih := volsC_set l i v (by simpa using h)
    have e : volsC (u :: l) = u.cells ++ volsC l := rfl
    have e4 : u.cells.length = 4 := rfl
    rw [List.set_cons_succ, show volsC (u :: l.set i v) = u.cells ++ volsC (l.set i v) from rfl, ← ih, e]
    rw [List.set_append_right _ _ (by rw [e4]; omega), List.set_append_right _ _ (by rw [e4]; omega), List.set_append_right _ _ (by rw [e4]; omega), List.set_append_right _ _ (by rw [e4]; omega), e4]
    rw [show 4 * (i + 1) - 4 = 4 * i from by omega, show 4 * (i + 1) + 1 - 4 = 4 * i + 1 from by omega, show 4 * (i + 1) + 2 - 4 = 4 * i + 2 from by omega, show 4 * (i + 1) + 3 - 4 = 4 * i + 3 from by omega]
/-- A subvolume's cells, laid in their place. -/
theorem cells_vol (gen sec lg : Int) (vs : List VolS) (i : Nat) (hi : i < vs.length) (v : VolS) :
    (((((SupS.cells ⟨gen, sec, lg, vs⟩).toArray.setIfInBounds (3 + i * 4) (.string v.name)).setIfInBounds (3 + i * 4 + 1) (.bool v.ro)).setIfInBounds (3 + i * 4 + 2) (.int .i64 v.root)).setIfInBounds (3 + i * 4 + 3) (.int .i64 v.next)) = (SupS.cells ⟨gen, sec, lg, vs.set i v⟩).toArray := by
  have h := volsC_set vs i v hi
  simp only [List.setIfInBounds_toArray]
  unfold SupS.cells
  simp only
  rw [List.set_append_right _ _ (by simp), List.set_append_right _ _ (by simp <;> omega), List.set_append_right _ _ (by simp <;> omega), List.set_append_right _ _ (by simp <;> omega)]
  simp only [List.length_cons, List.length_nil, Nat.zero_add, Nat.reduceAdd]
  rw [show 3 + i * 4 - 3 = 4 * i from by omega, show 3 + i * 4 + 1 - 3 = 4 * i + 1 from by omega, show 3 + i * 4 + 2 - 3 = 4 * i + 2 from by omega, show 3 + i * 4 + 3 - 3 = 4 * i + 3 from by omega, h]
theorem blk_vol {w0 w : World} {ps : List HP} {g : Nat} {gen sec lg : Int} {vs : List VolS} (h : St w0 w (blk g (SupS.cells ⟨gen, sec, lg, vs⟩).toArray 28 :: ps)) (i : Nat) (hi : i < vs.length) (v : VolS) :
    St w0 ((((w.setCell ⟨g, 3 + i * 4, none⟩ (.string v.name)).setCell ⟨g, 3 + i * 4 + 1, none⟩ (.bool v.ro)).setCell ⟨g, 3 + i * 4 + 2, none⟩ (.int .i64 v.root)).setCell ⟨g, 3 + i * 4 + 3, none⟩ (.int .i64 v.next)) (blk g (SupS.cells ⟨gen, sec, lg, vs.set i v⟩).toArray 28 :: ps) := by
  rw [← cells_vol gen sec lg vs i hi v]
  exact (((h.blk_set _ _).blk_set _ _).blk_set _ _).blk_set _ _
/-- The first bytes of a row laid over a row of as many. -/
theorem St.copy_bytes {P : Program} {ops : Array Oper} {o : Oper} {a : Act} {w0 W : World} {ps : List HP} {K : Act → World → Prop} {Q : Exit → Act → World → Prop} {E : Prop}
    (hgd : o.guard = none) (d x : Operand) (dT sT : TypeId) (hop : o.op = Op.call { callee := Callee.builtin Builtin.copy, args := #[d, x], argTypes := #[dT, sT] })
    (elem : TypeId) (hu : P.underlying dT = some (.slice elem)) (hz : (P.info? elem).map (·.size) = some 1)
    (g n dCap : Nat) (t : TypeId) (hn0 : 0 < n) (hd : a.eval d = .slice (some ⟨g, 0, none⟩) n dCap) (A : Option Addr) (m c : Nat) (hx : a.eval x = .slice A m c) (hle : n ≤ m) (l : List Int) (HC : Kd.C (Kd.int .u8) W A m l)
    (x0 : List Int) (hx0 : x0.length = n) (H : St w0 W (blk g (byC x0) t :: ps))
    (hK : ∀ w1, St w0 w1 (blk g (byC (l.take n)) t :: ps) → K (a.put o.dst (goInt n)) w1) :
    if Region.wanted o (yielded ops a.tmps) = true then Oper.wp P o a W K Q else E := by
  have hw : Region.wanted o (yielded ops a.tmps) = true := by simp [Region.wanted, hgd]
  rw [if_pos hw]
  have hlen : l.length = m := HC.1
  obtain ⟨ad, rfl, hcs⟩ := HC.2.2 (by omega)
  have hl2 : (encs (Value.int .u8) (l.take n)).length = n := by rw [encs_length, List.length_take]; omega
  have hrun := run_copy_row (P := P) W dT sT o.type elem g 0 n dCap ad m c _ t (encs (Value.int .u8) (l.take n)) hu hz H.blk_is (by rw [hl2]; exact (Nat.min_eq_right hle).symm) (by
      intro j v hj
      obtain ⟨hl, hv⟩ := List.getElem?_eq_some_iff.1 hj
      rw [hl2] at hl
      have hjl : j < l.length := by omega
      obtain ⟨cc, _, hcc, hcell⟩ := hcs j _ (List.getElem?_eq_getElem hjl)
      have hcc2 : cc = [Value.int .u8 (l[j]'hjl)] := hcc
      have := hcell 0 (Value.int .u8 (l[j]'hjl)) (by rw [hcc2]; rfl)
      rw [← hv]
      simpa [encs, Kd.int, Kd.scalar] using this) (by rw [hl2, byC_size, hx0]; omega) (by
      intro v hv
      simp only [encs, List.mem_map] at hv
      obtain ⟨x, _, rfl⟩ := hv
      rfl)
  rw [show ((byC x0).toList.take 0 ++ encs (Value.int .u8) (l.take n) ++ (byC x0).toList.drop (0 + (encs (Value.int .u8) (l.take n)).length)).toArray = byC (l.take n) from by
    rw [hl2, Nat.zero_add, List.drop_of_length_le (by rw [Array.length_toList, byC_size, hx0]; exact Nat.le_refl _), List.append_nil, List.take_zero, List.nil_append]; rfl] at hrun
  obtain ⟨F, hF, hp, hst⟩ := H.out
  unfold Oper.wp
  simp [execOp, hop, resolve, invoke, builtin, hd, hx, hrun, Result.andThen]
  rw [hl2]
  exact hK _ (hst (qs := [blk g (byC (l.take n)) t]) (F' := F) ⟨rfl, rfl, rfl, by simp, fun i hi hni => setRow_other _ _ _ _ (fun e => hni (e ▸ hp.1)), fun _ h => Or.inl h⟩ (Sep.one (fun k hk => by simpa using (hF k hk).2) ⟨hp.1, setRow_heap _ _ _ _ _ _ hp.2⟩))
theorem eqItems_bytes {P : Program} {d : Nat} {e : TypeId} (he : P.plainKey e = true) (hu : P.underlying e = some (.int .u8)) (w : World) (x y : List Int) : ∀ (is : List Nat), (∀ i ∈ is, i < x.length ∧ i < y.length) → (Op.eqItems (d + 1) e 1 (byC x) (byC y) is).run P w = .ok (decide (∀ i ∈ is, x[i]? = y[i]?)) w
  | [], _ => by simp [Op.eqItems]
  | i :: is, h => by
    have ih := eqItems_bytes (d := d) he hu w x y is (fun j hj => h j (List.mem_cons_of_mem _ hj))
    obtain ⟨h1, h2⟩ := h i (List.mem_cons_self ..)
    have p1 : (byC x)[i]? = some (Value.int .u8 x[i]) := by simp [byC, encs, h1]
    have p2 : (byC y)[i]? = some (Value.int .u8 y[i]) := by simp [byC, encs, h2]
    simp only [Op.eqItems, Nat.mul_one, Sem.run_bind, run_part_plain w he p1, run_part_plain w he p2, run_equalIn_int w d e .u8 .u8 x[i] y[i] hu, Result.andThen_ok]
    by_cases hxy : x[i] = y[i]
    · rw [show (x[i] == y[i]) = true from by simpa using hxy]
      simp only [Bool.not_true, Bool.false_eq_true, if_false]
      rw [ih]
      congr 1
      refine decide_eq_decide.2 ⟨fun h j hj => ?_, fun h j hj => h j (List.mem_cons_of_mem _ hj)⟩
      rcases List.mem_cons.1 hj with rfl | hj
      · rw [List.getElem?_eq_getElem h1, List.getElem?_eq_getElem h2, hxy]
      · exact h j hj
    · rw [show (x[i] == y[i]) = false from by simpa using hxy]
      simp only [Bool.not_false, if_true, Sem.run_pure]
      rw [decide_eq_false]
      intro h
      have := h i (List.mem_cons_self ..)
      rw [List.getElem?_eq_getElem h1, List.getElem?_eq_getElem h2] at this
      exact hxy (Option.some.inj this)
/-- '==' of labels. -/
theorem eql_label (x y : List Int) (hx : x.length = 10) (hy : y.length = 10) (w : World) : (binOp .eql 57 (.agg (byC x)) (.agg (byC y))).run Try.prog w = .ok (.bool (decide (x = y))) w := by
  obtain ⟨i, hi⟩ := Option.isSome_iff_exists.1 (show (Try.prog.info? 5).isSome = true from by kernel_rfl)
  rw [run_eql_struct, run_equalIn_array (P := Try.prog) w 9999 (byC x) (byC y) Try.underlying57 hi, show Try.prog.cellsOf 5 = 1 from by kernel_rfl,
    eqItems_bytes (P := Try.prog) (d := 9998) (by kernel_rfl) Try.underlying5 w x y _ (fun i hi => by have := List.mem_range.1 hi; omega), Result.andThen_ok]
  congr 2
  refine decide_eq_decide.2 ⟨fun h => List.ext_getElem? fun i => ?_, fun h i _ => by rw [h]⟩
  by_cases hi : i < 10
  · exact h i (List.mem_range.2 hi)
  · rw [List.getElem?_eq_none (by omega), List.getElem?_eq_none (by omega)]
theorem range_all {w : World} {b : Nat} {C : Array Value} {t : TypeId} (h : w.heap[b]? = some (.cells C t (0, 0))) : w.rangeAt b 0 C.toList := by
  have := World.rangeAt_of_block h 0 C.size
  rwa [Nat.zero_add, Array.extract_size] at this
theorem cell_some {w : World} {b : Nat} {C : Array Value} {t : TypeId} (h : w.heap[b]? = some (.cells C t (0, 0))) (i : Nat) (hi : i < C.size) : ∃ u, w.cell? ⟨b, i, none⟩ = some u := ⟨C[i], by rw [blk_cell h i, Array.getElem?_eq_getElem hi]⟩
theorem pre_set {pre : List VolS} {j : Nat} (hj : j < 8) (hp : pre.length = j) (v : VolS) : (pre ++ List.replicate (8 - j) VolS.zero).set j v = (pre ++ [v]) ++ List.replicate (8 - (j + 1)) VolS.zero := by
  rw [List.set_append_right _ _ (by omega), hp, Nat.sub_self, show 8 - j = (8 - (j + 1)) + 1 from by omega, List.replicate_succ, List.set_cons_zero, List.append_assoc]
  rfl
/-- '==' of arrays or structs, as the walk meets it. -/
theorem wpList_eql {P : Program} {ops : Array Oper} {rest : List Oper} {o : Oper} {a : Act} {w : World} {Q : Exit → Act → World → Prop} (hgd : o.guard = none) (t u : TypeId) (x y : Operand) (ho : o.op = .binOp .eql t x y u) (xs ys : Array Value)
    (hx : a.eval x = .agg xs) (hy : a.eval y = .agg ys) (b : Bool) (hm : P.eqGuardType P.depth t = false) (hr : (binOp .eql t (.agg xs) (.agg ys)).run P w = .ok (.bool b) w) (N : Option Tmp) (hd : o.dst = N) (h : wpList P ops Q rest (a.put N (.bool b)) w) : wpList P ops Q (o :: rest) a w := by
  refine wpList_plain hgd fun K hK => ?_
  have hg := run_eqGuard_agg (P := P) w .eql t x y xs ys hm
  have he : (execOp a.eval o).run P w = .ok (.value (.bool b)) w := by
    unfold execOp
    simp only [ho, hx, hy, Sem.run_bind, hg, hr, Result.andThen_ok, Sem.run_pure]
  unfold Oper.wp
  rw [he]
  subst hd
  exact hK _ _ h
theorem there_of {w : World} {b : Nat} {C : Array Value} {t : TypeId} (h : w.heap[b]? = some (.cells C t (0, 0))) (o n : Nat) (hn : o + n ≤ C.size) : w.there b o n := fun j hj => by
  obtain ⟨u, hu⟩ := cell_some h (o + j) (by omega)
  exact ⟨by rw [hu]; rfl, blk_frozen h (o + j)⟩
theorem blk_vol_cells {w0 w : World} {ps : List HP} {g : Nat} {gen sec lg : Int} {vs : List VolS} (h : St w0 w (blk g (SupS.cells ⟨gen, sec, lg, vs⟩).toArray 28 :: ps)) (i : Nat) (hi : i < vs.length) (v : VolS) :
    St w0 (w.setCells g (3 + i * 4) [.string v.name, .bool v.ro, .int .i64 v.root, .int .i64 v.next]) (blk g (SupS.cells ⟨gen, sec, lg, vs.set i v⟩).toArray 28 :: ps) := blk_vol h i hi v
def zerosB (l : List Int) (k : Nat) : Bool := decide (l.drop k = List.replicate (l.length - k) 0)
theorem zeros_step (l : List Int) (k : Nat) (hk : k < l.length) : zerosB l k = ((rd l (k : Int) == 0) && zerosB l (k + 1)) := by
  unfold zerosB
  rw [List.drop_eq_getElem_cons hk, show l.length - k = (l.length - (k + 1)) + 1 from by omega, List.replicate_succ]
  have e : rd l (k : Int) = l[k] := by
    unfold rd
    rw [Int.toNat_natCast, List.getD_eq_getElem?_getD, List.getElem?_eq_getElem hk]
    rfl
  rw [e]
  by_cases h : l[k] = 0
  · rw [h]; simp
  · rw [decide_eq_false (fun q => h (List.cons.inj q).1), show (l[k] == 0) = false from by simpa using h, Bool.false_and]
theorem zeros_end (l : List Int) : zerosB l l.length = true := by unfold zerosB; simp
theorem zeros_start (l : List Int) : zerosB l 0 = decide (l = List.replicate l.length 0) := by unfold zerosB; simp
/-- A load of many cells behind a guard that says yes. -/
theorem wpList_load_midg {P : Program} {ops : Array Oper} {rest : List Oper} {op : Oper} {a : Act} {w : World} {Q : Exit → Act → World → Prop} (hw : Region.wanted op (yielded ops a.tmps) = true) (ty : TypeId) (x : Operand) (ho : op.op = .load ty x)
    (b o : Nat) (hx : a.eval x = .pointer (some ⟨b, o, none⟩)) (cs : List Value) (d : TypeDesc) (hc : w.rangeAt b o cs)
    (hu : P.underlying ty = some d) (hd : d.isRow = true) (hi : (P.info? ty).map (·.size) = some cs.length)
    (h : wpList P ops Q rest (a.put op.dst (.agg cs.toArray)) w) : wpList P ops Q (op :: rest) a w :=
  wpList_step fun K hK => by
    rw [if_pos hw]
    exact wp_load_mid ty x ho b o hx cs d hc hu hd hi (hK _ _ h)
theorem wpList_eqlg {P : Program} {ops : Array Oper} {rest : List Oper} {o : Oper} {a : Act} {w : World} {Q : Exit → Act → World → Prop} (hw : Region.wanted o (yielded ops a.tmps) = true) (t u : TypeId) (x y : Operand) (ho : o.op = .binOp .eql t x y u) (xs ys : Array Value)
    (hx : a.eval x = .agg xs) (hy : a.eval y = .agg ys) (b : Bool) (hm : P.eqGuardType P.depth t = false) (hr : (binOp .eql t (.agg xs) (.agg ys)).run P w = .ok (.bool b) w) (N : Option Tmp) (hd : o.dst = N) (h : wpList P ops Q rest (a.put N (.bool b)) w) : wpList P ops Q (o :: rest) a w := by
  refine wpList_step fun K hK => ?_
  rw [if_pos hw]
  have hg := run_eqGuard_agg (P := P) w .eql t x y xs ys hm
  have he : (execOp a.eval o).run P w = .ok (.value (.bool b)) w := by
    unfold execOp
    simp only [ho, hx, hy, Sem.run_bind, hg, hr, Result.andThen_ok, Sem.run_pure]
  unfold Oper.wp
  rw [he]
  subst hd
  exact hK _ _ h
end Go.Proofs.Ytjpebckmjlmkmaa.P
