/- The reference's drive in memory: rows of rows of bytes. -/
import Derived.Test.YtoloibjdiojmlaaDrv8
import Derived.Test.YtoloibjdiojmlaaRowsV
namespace Go.Proofs.Ytoloibjdiojmlaa.P
open Go.RowKit Go.Proofs.YtoloibjdiojmlaaW.PrintWords Go.Proofs.YtoloibjdiojmlaaW.PrintLast Go.Proofs.YtoloibjdiojmlaaW.PrintMore Go.Proofs.Ytoloibjdiojmlaa.Sep
set_option linter.unusedVariables false
set_option linter.unusedSimpArgs false
abbrev Tri := Option Addr × Nat × Nat
abbrev encT (p : Tri) : Value := .slice p.1 p.2.1 p.2.2
def triN : Tri := (none, 0, 0)
/-- Slices as they stand in a row. -/
def kSl : Kd Tri := Kd.scalar encT (fun _ => rfl)
/-- Elements of a row, each with memory of its own (told by E); that of element x is out. -/
def spr {α : Type} (E : Tri → α → HP) (vs : List Tri) (xs : List α) (x : Option Nat) : HP where
  P w F := vs.length = xs.length ∧ ∃ G : Nat → Nat → Prop, (∀ k i, G k i → F i) ∧ (∀ k k' i, G k i → G k' i → k = k') ∧
    ∀ k v y, vs[k]? = some v → xs[k]? = some y → some k ≠ x → (E v y).P w (G k)
  move := by
    rintro w w' F hm ⟨hl, G, h1, h2, h3⟩
    exact ⟨hl, G, h1, h2, fun k v y a b c => (E v y).move (fun i hi => hm i (h1 k i hi)) (h3 k v y a b c)⟩
/-- A row that may begin inside its block. -/
def qrow {α : Type} (d : Kd α) (e : Nat) (v : Value) (xs : List α) : HP where
  P w F := d.Q e w 0 F v xs
  move := fun h hp => Kd.Q_move hp h
section
variable {α : Type} {E : Tri → α → HP} {vs : List Tri} {xs : List α} {x : Option Nat} {w0 w w1 : World} {ps : List HP}
theorem St.spr_len (h : St w0 w (spr E vs xs x :: ps)) : vs.length = xs.length := by
  obtain ⟨F, hp⟩ := h.tells
  exact hp.1
theorem St.spr_nil (h : St w0 w ps) : St w0 w (spr E [] [] none :: ps) :=
  h.new_ (Below.refl _ _) (fun _ => False) (fun _ q => q.elim) ⟨rfl, fun _ _ => False, fun _ _ q => q, fun _ _ _ q => q.elim, fun k v y a _ _ => by simp at a⟩
theorem St.spr_take (h : St w0 w (spr E vs xs none :: ps)) (k : Nat) (hk : k < vs.length) (z : α) : St w0 w (spr E vs xs (some k) :: E (vs.getD k triN) (xs.getD k z) :: ps) := by
  obtain ⟨F, hF, hp, hst⟩ := h.out
  obtain ⟨hl, G, h1, h2, h3⟩ := hp
  refine hst (qs := [spr E vs xs (some k), E (vs.getD k triN) (xs.getD k z)]) (Step.refl F w) ⟨fun i => F i ∧ ¬ G k i, fun i hi => ⟨hi.1, (hF i hi.1).2⟩, ⟨hl, fun j i => G j i ∧ j ≠ k, fun j i hj => ⟨h1 j i hj.1, fun q => hj.2 (h2 j k i hj.1 q)⟩, fun j j' i hj hj' => h2 j j' i hj.1 hj'.1, fun j v y a b c => ?_⟩, G k, fun i hi => ⟨⟨h1 k i hi, fun q => q.2 hi⟩, (hF i (h1 k i hi)).2⟩, ?_, trivial⟩
  · have hjk : j ≠ k := fun q => c (by rw [q])
    have := h3 j v y a b (by simp)
    have e1 : (fun i => G j i ∧ j ≠ k) = G j := by funext i; simp [hjk]
    show (E v y).P w (fun i => G j i ∧ j ≠ k)
    rw [e1]
    exact this
  · refine h3 k _ _ ?_ ?_ (by simp)
    · rw [List.getD_eq_getElem?_getD, List.getElem?_eq_getElem hk]; rfl
    · rw [List.getD_eq_getElem?_getD, List.getElem?_eq_getElem (by omega)]; rfl
theorem St.spr_put {k : Nat} {v : Tri} {y : α} (h : St w0 w (spr E vs xs (some k) :: E v y :: ps)) (hk : k < vs.length) : St w0 w (spr E (vs.set k v) (xs.set k y) none :: ps) := by
  obtain ⟨F, hF, ⟨_, F1, hF1, ⟨hl, G, h1, h2, h3⟩, F2, hF2, hr, _⟩, hst⟩ := (St.in_all [spr E vs xs (some k), E v y] h).out
  refine hst (qs := [spr E (vs.set k v) (xs.set k y) none]) (Step.refl F w) (Sep.one (fun i hi => (hF i hi).2) ⟨by rw [List.length_set, List.length_set]; exact hl, fun j i => (j = k ∧ F2 i) ∨ (j ≠ k ∧ G j i), ?_, ?_, ?_⟩)
  · rintro j i (⟨_, hi⟩ | ⟨_, hi⟩)
    · exact (hF2 i hi).1.1
    · exact (hF1 i (h1 j i hi)).1
  · rintro j j' i (⟨a, hi⟩ | ⟨a, hi⟩) (⟨b, hj⟩ | ⟨b, hj⟩)
    · rw [a, b]
    · exact absurd (h1 j' i hj) (hF2 i hi).1.2
    · exact absurd (h1 j i hi) (hF2 i hj).1.2
    · exact h2 j j' i hi hj
  · intro j v' y' a b _
    by_cases hjk : j = k
    · subst hjk
      rw [List.getElem?_set_self hk] at a
      rw [List.getElem?_set_self (by omega)] at b
      injection a with a
      injection b with b
      subst a b
      have e1 : (fun i => (j = j ∧ F2 i) ∨ (j ≠ j ∧ G j i)) = F2 := by funext i; simp
      show (E v y).P w (fun i => (j = j ∧ F2 i) ∨ (j ≠ j ∧ G j i))
      rw [e1]
      exact hr
    · rw [List.getElem?_set_ne (fun q => hjk q.symm)] at a b
      have e1 : (fun i => (j = k ∧ F2 i) ∨ (j ≠ k ∧ G j i)) = G j := by funext i; simp [hjk]
      show (E v' y').P w (fun i => (j = k ∧ F2 i) ∨ (j ≠ k ∧ G j i))
      rw [e1]
      exact h3 j v' y' a b (fun q => hjk (by injection q))
theorem St.spr_snoc {v : Tri} {y : α} (h : St w0 w (spr E vs xs none :: E v y :: ps)) : St w0 w (spr E (vs ++ [v]) (xs ++ [y]) none :: ps) := by
  obtain ⟨F, hF, ⟨_, F1, hF1, ⟨hl, G, h1, h2, h3⟩, F2, hF2, hr, _⟩, hst⟩ := (St.in_all [spr E vs xs none, E v y] h).out
  have hne : ∀ (j i : Nat), (j < vs.length ∧ G j i) → F1 i := fun j i hj => h1 j i hj.2
  refine hst (qs := [spr E (vs ++ [v]) (xs ++ [y]) none]) (Step.refl F w) (Sep.one (fun i hi => (hF i hi).2) ⟨by simp [hl], fun j i => (j = vs.length ∧ F2 i) ∨ (j < vs.length ∧ G j i), ?_, ?_, ?_⟩)
  · rintro j i (⟨_, hi⟩ | hi)
    · exact (hF2 i hi).1.1
    · exact (hF1 i (hne j i hi)).1
  · rintro j j' i (⟨a, hi⟩ | hi) (⟨b, hj⟩ | hj)
    · rw [a, b]
    · exact absurd (hne j' i hj) (hF2 i hi).1.2
    · exact absurd (hne j i hi) (hF2 i hj).1.2
    · exact h2 j j' i hi.2 hj.2
  · intro j v' y' a b _
    rcases Nat.lt_or_ge j vs.length with hj | hj
    · rw [List.getElem?_append_left hj] at a
      rw [List.getElem?_append_left (by omega)] at b
      have e1 : (fun i => (j = vs.length ∧ F2 i) ∨ (j < vs.length ∧ G j i)) = G j := by funext i; simp [hj]; omega
      show (E v' y').P w (fun i => (j = vs.length ∧ F2 i) ∨ (j < vs.length ∧ G j i))
      rw [e1]
      exact h3 j v' y' a b (by simp)
    · have hje : j = vs.length := by
        have := (List.getElem?_eq_some_iff.1 a).1
        rw [List.length_append, List.length_singleton] at this
        omega
      subst hje
      rw [List.getElem?_append_right (Nat.le_refl _), Nat.sub_self] at a
      rw [List.getElem?_append_right (by omega), show vs.length - xs.length = 0 by omega] at b
      have a' : v = v' := by simpa using a
      have b' : y = y' := by simpa using b
      subst a' b'
      have e1 : (fun i => (vs.length = vs.length ∧ F2 i) ∨ (vs.length < vs.length ∧ G vs.length i)) = F2 := by funext i; simp
      show (E v y).P w (fun i => (vs.length = vs.length ∧ F2 i) ∨ (vs.length < vs.length ∧ G vs.length i))
      rw [e1]
      exact hr
theorem St.spr_drop (h : St w0 w (spr E vs xs none :: ps)) (n : Nat) : St w0 w (spr E (vs.drop n) (xs.drop n) none :: ps) := by
  obtain ⟨F, hF, hp, hst⟩ := h.out
  obtain ⟨hl, G, h1, h2, h3⟩ := hp
  refine hst (qs := [spr E (vs.drop n) (xs.drop n) none]) (Step.refl F w) (Sep.one (fun i hi => (hF i hi).2) ⟨by simp [hl], fun j i => G (n + j) i, fun j i => h1 _ i, fun j j' i a b => by have := h2 _ _ i a b; omega, fun j v y a b _ => ?_⟩)
  rw [List.getElem?_drop] at a b
  exact h3 (n + j) v y a b (by simp)
theorem St.row_q {d : Kd α} {e : Nat} {v : Value} (h : St w0 w (row d e v xs :: ps)) : St w0 w (qrow d e v xs :: ps) := by
  obtain ⟨F, hF, hp, hst⟩ := h.out
  exact hst (qs := [qrow d e v xs]) (Step.refl F w) (Sep.one (fun i hi => (hF i hi).2) (Kd.Q_of_R hp))
theorem St.q_slice {d : Kd α} {e : Nat} {v : Value} (h : St w0 w (qrow d e v xs :: ps)) : ∃ A c, v = .slice A xs.length c ∧ xs.length ≤ c := by
  obtain ⟨F, hp⟩ := h.tells
  exact Kd.Q_slice hp
theorem St.q_C {d : Kd α} {e n c : Nat} {A : Option Addr} (h : St w0 w (qrow d e (.slice A n c) xs :: ps)) : n = xs.length ∧ n ≤ c ∧ d.C w A xs.length xs := by
  obtain ⟨F, hp⟩ := h.tells
  exact Kd.Q_reads' hp
theorem St.q_drop {d : Kd α} {e n c : Nat} {A : Option Addr} (h : St w0 w (qrow d e (.slice A n c) xs :: ps)) (k : Nat) (hk : k ≤ xs.length) : St w0 w (qrow d e (.slice (if c = k then A else A.map (·.add (k * d.sz))) (n - k) (c - k)) (xs.drop k) :: ps) := by
  obtain ⟨F, hF, hp, hst⟩ := h.out
  exact hst (qs := [qrow d e _ (xs.drop k)]) (Step.refl F w) (Sep.one (fun i hi => (hF i hi).2) (Kd.Q_drop hp hk))
theorem kSl_at {A : Option Addr} {n : Nat} {ts : List Tri} (h : kSl.C w A n ts) (i : Nat) (hi : i < n) : ∃ ad, A = some ad ∧ w.cell? (ad.add i) = some (encT (ts.getD i triN)) := by
  obtain ⟨ad, c, hA, hcl, hK, hcs⟩ := Kd.C_get h triN (i : Int) (by omega) (by omega)
  rw [Int.toNat_natCast] at hK hcs
  obtain rfl : c = [encT (ts.getD i triN)] := hK
  refine ⟨ad, hA, ?_⟩
  have := hcs 0 _ rfl
  rwa [show i * kSl.sz + 0 = i from by show i * 1 + 0 = i; omega] at this
end
section
variable {P : Program} {ops : Array Oper} {rest : List Oper} {o : Oper} {a : Act} {Q : Exit → Act → World → Prop} {Kc : Act → World → Prop} {α : Type} {w0 W : World} {ps : List HP} {d : Kd α}
/-- append(v, x) of one scalar element, onto a row that may begin inside its block. -/
theorem St.append_q_step (hw : Region.wanted o (yielded ops a.tmps) = true) (s x : Operand) (t e : TypeId) (z : Value) (bytes : Nat)
    (ho : o.op = .call { callee := .builtin .append, args := #[s, x], argTypes := #[t, t] })
    (ht : P.underlying t = some (.slice e)) (hinfo : (P.info? e).map (fun i => (i.zero, i.size, i.bytes)) = some (some z, 1, bytes)) (hz : z.cells.size = 1) (hb0 : 0 < bytes)
    (v : Value) (xs : List Tri) (p : Tri) (hs : a.eval s = v) (hx : a.eval x = .slice (some ⟨W.heap.size, 0, none⟩) 1 1)
    (H : St w0 W (qrow kSl e v xs :: ps)) (hl : (xs.length + 1) * bytes ≤ 140737488355328)
    (h : ∀ v1 w1, St w0 w1 (qrow kSl e v1 (xs ++ [p]) :: ps) → Kc (a.put o.dst v1) w1) :
    if Region.wanted o (yielded ops a.tmps) = true then Oper.wp P o a (W.alloc (.cells #[encT p] e)) Kc Q else Kc (a.put o.dst undef) (W.alloc (.cells #[encT p] e)) := by
  obtain ⟨F, hF, hp, hst⟩ := H.out
  refine Kd.Q_append_step kSl (w0 := W) 0 hw s x t e z bytes ho ht hinfo hz (show 0 < 1 by decide) hb0 v xs p [encT p] (fun k => F k ∨ W.heap.size ≤ k) (fun _ => False) hs hx rfl (fun _ q => q.elim) (fun k hk => Or.inr hk) (Kd.Q_mono hp (fun k hk => Or.inl hk)) (Below.mono (Below.refl W.heap.size W) (Nat.zero_le _)) (Nat.zero_le _) hl ?_
  intro v1 w1 hr hb hg hat
  refine h v1 w1 (hst (qs := [qrow kSl e v1 (xs ++ [p])]) (Step.grown hg (fun k hk => hp.1 k hk)) (Sep.one (fun k hk => hk.2) ?_))
  exact Kd.Q_mono (Kd.Q_bound hr) (fun k hk => ⟨hk.1, hk.2.2.1⟩)
end
/-- A row of bytes. -/
abbrev EB : Tri → List Int → HP := fun v x => row (Kd.int .u8) 5 (encT v) x
/-- A sector's rows: what is sure, what is cached. -/
def grp (v : Value) (xs : List (List Int)) : HP := ex fun vs : List Tri => all [qrow kSl 33 v vs, spr EB vs xs none]
abbrev EG : Tri → List (List Int) → HP := fun v xs => grp (encT v) xs
def rowsD (D : DV) : List (List (List Int)) := List.zipWith (fun h t => h :: t) D.hs D.ts
abbrev rCells (A : Option Addr) (n c : Nat) (D : DV) : Array Value := #[.slice A n c, .bool D.off, .bool (decide (0 ≤ D.fuse)), .int .i64 (max D.fuse 0), .int .i64 D.steps]
structure RM where
  A : Option Addr
  c : Nat
  vs : List Tri
abbrev rdrM (g : Nat) (D : DV) (p : RM) : List HP := [blk g (rCells p.A D.hs.length p.c D) 58, row kSl 68 (.slice p.A D.hs.length p.c) p.vs, spr EG p.vs (rowsD D) none]
/-- The reference's drive in block g. -/
def rdr (g : Nat) (D : DV) : HP := ex fun p : RM => and (DOk D) (all (rdrM g D p))
section
variable {w0 w : World} {ps : List HP} {g : Nat} {D : DV}
theorem rdr_out (h : St w0 w (rdr g D :: ps)) : DOk D ∧ ∃ p, St w0 w (rdrM g D p ++ ps) := by
  obtain ⟨p, h⟩ := h.out_ex
  obtain ⟨hp, h⟩ := h.out_and
  exact ⟨hp, p, h.out_all⟩
theorem rdr_in (hp : DOk D) {p : RM} (h : St w0 w (rdrM g D p ++ ps)) : St w0 w (rdr g D :: ps) := St.in_ex p (St.in_and hp (St.in_all _ h))
theorem rdr_cells {A : Option Addr} {n c : Nat} {qs : List HP} (h : St w0 w (blk g (rCells A n c D) 58 :: qs)) :
    w.cell? ⟨g, 0, none⟩ = some (.slice A n c) ∧ w.cell? ⟨g, 1, none⟩ = some (.bool D.off) ∧ w.cell? ⟨g, 2, none⟩ = some (.bool (decide (0 ≤ D.fuse))) ∧ w.cell? ⟨g, 3, none⟩ = some (.int .i64 (max D.fuse 0)) ∧ w.cell? ⟨g, 4, none⟩ = some (.int .i64 D.steps) :=
  ⟨blk_cell h.blk_is 0, blk_cell h.blk_is 1, blk_cell h.blk_is 2, blk_cell h.blk_is 3, blk_cell h.blk_is 4⟩
theorem grp_out {v : Value} {xs : List (List Int)} (h : St w0 w (grp v xs :: ps)) : ∃ vs, St w0 w (qrow kSl 33 v vs :: spr EB vs xs none :: ps) := by
  obtain ⟨vs, h⟩ := h.out_ex
  exact ⟨vs, h.out_all⟩
theorem grp_in {v : Value} {vs : List Tri} {xs : List (List Int)} (h : St w0 w (qrow kSl 33 v vs :: spr EB vs xs none :: ps)) : St w0 w (grp v xs :: ps) := St.in_ex vs (St.in_all [_, _] h)
theorem rowsD_len (h : DOk D) : (rowsD D).length = D.hs.length := by unfold rowsD; rw [List.length_zipWith, h.1, Nat.min_self]
theorem rowsD_get (h : DOk D) (i : Nat) (hi : i < D.hs.length) : (rowsD D).getD i [] = D.hs.getD i [] :: D.ts.getD i [] := by
  unfold rowsD
  have h1 := h.1
  rw [List.getD_eq_getElem?_getD, List.getElem?_zipWith, List.getElem?_eq_getElem hi, List.getElem?_eq_getElem (show i < D.ts.length by omega), List.getD_eq_getElem?_getD (l := D.hs), List.getD_eq_getElem?_getD (l := D.ts), List.getElem?_eq_getElem hi, List.getElem?_eq_getElem (show i < D.ts.length by omega)]
  rfl
end
end Go.Proofs.Ytoloibjdiojmlaa.P
