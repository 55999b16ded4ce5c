/- Blocks of slices: each element's memory a part of its own. -/
import Derived.Test.YtoloibjdiojmlaaDrv0
namespace Go.Proofs.Ytoloibjdiojmlaa.P
open Go.RowKit Go.Proofs.YtoloibjdiojmlaaW.PrintWords Go.Proofs.YtoloibjdiojmlaaW.PrintLast Go.Proofs.YtoloibjdiojmlaaW.PrintMore Go.Proofs.Ytoloibjdiojmlaa.Sep
set_option linter.unusedVariables false
set_option linter.unusedSimpArgs false
variable {α : Type}
/-- Block g of type e: the values vs (behind them some more cells); element k's memory is told by E; that of element x is out. -/
def rws (E : Value → α → HP) (g e : Nat) (vs : List Value) (mo : List Value) (xs : List α) (x : Option Nat) : HP where
  P w F := F g ∧ w.heap[g]? = some (.cells (vs ++ mo).toArray e (0, 0)) ∧ vs.length = xs.length ∧ ∃ G : Nat → Nat → Prop, (∀ k i, G k i → F i ∧ i ≠ g) ∧ (∀ k k' i, G k i → G k' i → k = k') ∧
    ∀ k v y, vs[k]? = some v → xs[k]? = some y → some k ≠ x → (E v y).P w (G k)
  move := by
    rintro w w' F hm ⟨hg, hh, hl, G, h1, h2, h3⟩
    exact ⟨hg, (hm g hg).trans hh, hl, G, h1, h2, fun k v y a b c => (E v y).move (fun i hi => hm i (h1 k i hi).1) (h3 k v y a b c)⟩
section
variable {E : Value → α → HP} {g e : Nat} {vs mo : List Value} {xs : List α} {x : Option Nat} {w0 w w1 : World} {ps : List HP}
theorem St.rws_len (h : St w0 w (rws E g e vs mo xs x :: ps)) : vs.length = xs.length := by
  obtain ⟨F, hp⟩ := h.tells
  exact hp.2.2.1
theorem St.rws_blk (h : St w0 w (rws E g e vs mo xs x :: ps)) : w.heap[g]? = some (.cells (vs ++ mo).toArray e (0, 0)) := by
  obtain ⟨F, hp⟩ := h.tells
  exact hp.2.1
theorem St.rws_cell (h : St w0 w (rws E g e vs mo xs x :: ps)) (k : Nat) (hk : k < vs.length) : w.cell? ⟨g, k, none⟩ = some (vs.getD k undef) := by
  rw [blk_cell (St.rws_blk h) k, List.getElem?_toArray, List.getElem?_append_left hk, List.getD_eq_getElem?_getD, List.getElem?_eq_getElem hk]
  rfl
theorem St.rws_frozen (h : St w0 w (rws E g e vs mo xs x :: ps)) (k : Nat) : w.frozen? ⟨g, k, none⟩ = false := blk_frozen (St.rws_blk h) k
/-- Element k's memory is taken out. -/
theorem St.rws_take (h : St w0 w (rws E g e vs mo xs none :: ps)) (k : Nat) (hk : k < vs.length) (z : α) : St w0 w (rws E g e vs mo xs (some k) :: E (vs.getD k undef) (xs.getD k z) :: ps) := by
  obtain ⟨F, hF, hp, hst⟩ := h.out
  obtain ⟨hg, hh, hl, G, h1, h2, h3⟩ := hp
  refine hst (qs := [rws E g e vs mo xs (some k), E (vs.getD k undef) (xs.getD k z)]) (Step.refl F w) ⟨fun i => F i ∧ ¬ G k i, fun i hi => ⟨hi.1, (hF i hi.1).2⟩, ⟨⟨hg, fun q => (h1 k g q).2 rfl⟩, hh, hl, fun j i => G j i ∧ j ≠ k, fun j i hj => ⟨⟨(h1 j i hj.1).1, fun q => hj.2 (h2 j k i hj.1 q)⟩, (h1 j i hj.1).2⟩, fun j j' i hj hj' => h2 j j' i hj.1 hj'.1, fun j v y a b c => ?_⟩, G k, fun i hi => ⟨⟨(h1 k i hi).1, fun q => q.2 hi⟩, (hF i (h1 k i hi).1).2⟩, ?_, trivial⟩
  · have hjk : j ≠ k := fun q => c (by rw [q])
    have := h3 j v y a b (by simp)
    have e1 : (fun i => G j i ∧ j ≠ k) = G j := by funext i; simp [hjk]
    show (E v y).P w (fun i => G j i ∧ j ≠ k)
    rw [e1]
    exact this
  · refine h3 k _ _ ?_ ?_ (by simp)
    · rw [List.getD_eq_getElem?_getD, List.getElem?_eq_getElem hk]; rfl
    · rw [List.getD_eq_getElem?_getD, List.getElem?_eq_getElem (by omega)]; rfl
/-- Put in. -/
theorem St.rws_put {k : Nat} {v : Value} {y : α} (h : St w0 w (rws E g e vs mo xs (some k) :: E v y :: ps)) (hv : vs[k]? = some v) : St w0 w (rws E g e vs mo (xs.set k y) none :: ps) := by
  obtain ⟨F, hF, ⟨_, F1, hF1, ⟨hg, hh, hl, G, h1, h2, h3⟩, F2, hF2, hr, _⟩, hst⟩ := (St.in_all [rws E g e vs mo xs (some k), E v y] h).out
  have hk : k < vs.length := (List.getElem?_eq_some_iff.1 hv).1
  refine hst (qs := [rws E g e vs mo (xs.set k y) none]) (Step.refl F w) (Sep.one (fun i hi => (hF i hi).2) ⟨(hF1 g hg).1, hh, by rw [List.length_set]; exact hl, fun j i => (j = k ∧ F2 i) ∨ (j ≠ k ∧ G j i), ?_, ?_, ?_⟩)
  · rintro j i (⟨_, hi⟩ | ⟨_, hi⟩)
    · exact ⟨(hF2 i hi).1.1, fun q => (hF2 i hi).1.2 (q ▸ hg)⟩
    · exact ⟨(hF1 i (h1 j i hi).1).1, (h1 j i hi).2⟩
  · rintro j j' i (⟨a, hi⟩ | ⟨a, hi⟩) (⟨b, hj⟩ | ⟨b, hj⟩)
    · rw [a, b]
    · exact absurd (h1 j' i hj).1 (hF2 i hi).1.2
    · exact absurd (h1 j i hi).1 (hF2 i hj).1.2
    · exact h2 j j' i hi hj
  · intro j v' y' a b _
    by_cases hjk : j = k
    · subst hjk
      rw [hv] at a
      rw [List.getElem?_set_self (by omega)] at b
      injection a with a
      injection b with b
      subst a b
      have e1 : (fun i => (j = j ∧ F2 i) ∨ (j ≠ j ∧ G j i)) = F2 := by funext i; simp
      show (E v y).P w (fun i => (j = j ∧ F2 i) ∨ (j ≠ j ∧ G j i))
      rw [e1]
      exact hr
    · rw [List.getElem?_set_ne (fun q => hjk q.symm)] at b
      have e1 : (fun i => (j = k ∧ F2 i) ∨ (j ≠ k ∧ G j i)) = G j := by funext i; simp [hjk]
      show (E v' y').P w (fun i => (j = k ∧ F2 i) ∨ (j ≠ k ∧ G j i))
      rw [e1]
      exact h3 j v' y' a b (fun q => hjk (by injection q))
/-- Its cell is laid anew. -/
theorem St.rws_set {k : Nat} (h : St w0 w (rws E g e vs mo xs (some k) :: ps)) (hk : k < vs.length) (v : Value) : St w0 (w.setCell ⟨g, k, none⟩ v) (rws E g e (vs.set k v) mo xs (some k) :: ps) := by
  obtain ⟨F, hF, hp, hst⟩ := h.out
  obtain ⟨hg, hh, hl, G, h1, h2, h3⟩ := hp
  refine hst (qs := [rws E g e (vs.set k v) mo xs (some k)]) (Step.set hg k v) (Sep.one (fun i hi => by simpa using (hF i hi).2) ⟨hg, ?_, by rw [List.length_set]; exact hl, G, h1, h2, fun j v' y' a b c => ?_⟩)
  · have := blk_put hh k v rfl
    rw [this]
    congr 2
    apply Array.ext'
    rw [Array.toList_setIfInBounds]
    show (vs ++ mo).set k v = vs.set k v ++ mo
    rw [List.set_append_left _ _ hk]
  · have hjk : j ≠ k := fun q => c (by rw [q])
    rw [List.getElem?_set_ne (fun q => hjk q.symm)] at a
    exact (E v' y').move (fun i hi => Below.heap_setCell w _ v i (fun q => (h1 j i hi).2 q)) (h3 j v' y' a b c)
/-- Element k gets a new value, its old memory is left. -/
theorem St.rws_new {k : Nat} {v : Value} {y : α} (h : St w0 w (rws E g e vs mo xs none :: E v y :: ps)) (hk : k < vs.length) (z : α) : St w0 (w.setCell ⟨g, k, none⟩ v) (rws E g e (vs.set k v) mo (xs.set k y) none :: ps) := by
  have h1 := St.rws_take h k hk z
  have h2 := St.rws_set (St.drop (St.swap h1)) hk v
  exact St.rws_put h2 (List.getElem?_set_self hk)
/-- Nil slices. -/
theorem St.rws_nil {n : Nat} {v0 : Value} (h : St w0 w (blk g (List.replicate n v0).toArray e :: ps)) (z : α) (hE : ∀ w, (E v0 z).P w (fun _ => False)) : St w0 w (rws E g e (List.replicate n v0) [] (List.replicate n z) none :: ps) := by
  obtain ⟨F, hF, hp, hst⟩ := h.out
  refine hst (qs := [rws E g e (List.replicate n v0) [] (List.replicate n z) none]) (Step.refl F w) (Sep.one (fun i hi => (hF i hi).2) ⟨hp.1, by rw [List.append_nil]; exact hp.2, by simp, fun _ _ => False, fun _ _ q => q.elim, fun _ _ _ q => q.elim, fun k v y a b _ => ?_⟩)
  have a' : v = v0 := by
    have := List.mem_of_getElem? a
    exact List.eq_of_mem_replicate this
  have b' : y = z := by
    have := List.mem_of_getElem? b
    exact List.eq_of_mem_replicate this
  subst a' b'
  exact hE w
end
theorem step_store_val {P : Program} {ops : Array Oper} {op : Oper} {a : Act} {w : World} {K : Act → World → Prop} {Q : Exit → Act → World → Prop} {E : Prop} (hw : Region.wanted op (yielded ops a.tmps) = true) (ty : TypeId) (x y : Operand) (ho : op.op = .store ty x y)
    (b o : Nat) (v : Value) (hx : a.eval x = .pointer (some ⟨b, o, none⟩)) (hy : a.eval y = v) (hv : v.cells = #[v]) (h1 : v.oneCell' = true)
    (hc : (w.cell? ⟨b, o, none⟩).isSome = true) (hf : w.frozen? ⟨b, o, none⟩ = false) (hi : (P.info? ty).map (·.size) = some 1)
    (h : K (a.put op.dst undef) (w.setCell ⟨b, o, none⟩ v)) : if Region.wanted op (yielded ops a.tmps) = true then op.wp P a w K Q else E := by
  rw [if_pos hw]
  have hst := run_storeCells_cells (P := P) b o [v] 0 w (fun j hj => by
    have : j = 0 := by simpa using hj
    subst this
    exact hc) (fun j hj => by
    have : j = 0 := by simpa using hj
    subst this
    exact hf) (fun v hv => by
    rw [List.mem_singleton.1 hv]
    exact h1)
  have hs : (storeVar ty ⟨b, o, none⟩ v).run P w = .ok () (w.setCell ⟨b, o, none⟩ v) := by
    cases hq : P.info? ty with
    | none => simp [hq] at hi
    | some i =>
      have hs : i.size = 1 := by simpa [hq] using hi
      simp [storeVar, sizeOf, typeInfo, hq, hs, hv, hst]
      rfl
  unfold Oper.wp execOp
  simp only [ho, hx, hy, Instr.storeAt, Instr.sureAddr, Sem.run_bind, Sem.run_pure, Result.andThen_ok, hs]
  exact h
end Go.Proofs.Ytoloibjdiojmlaa.P
