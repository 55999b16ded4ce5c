import Derived.Test.YtgklipfeheohkaaDoorOwn
import Derived.Test.YtgklipfeheohkaaDoorWMore
import Derived.Test.YtgklipfeheohkaaDoorWLast
import Derived.Test.YtgklipfeheohkaaDoorWFoot
import Derived.Laws.CopyOwn
namespace Go.Proofs.YtgklipfeheohkaaDoor.Sep
open Go.RowKit Go.Proofs.YtgklipfeheohkaaDoorW.PrintWords Go.Proofs.YtgklipfeheohkaaDoorW.PrintLast
set_option linter.unusedVariables false
/-- A part of memory: what is told of it in a world, and by which blocks. -/
structure HP where
  P : World → (Nat → Prop) → Prop
  move : ∀ {w w' : World} {F : Nat → Prop}, (∀ k, F k → w'.heap[k]? = w.heap[k]?) → P w F → P w' F
/-- Parts that share no block, all within U. -/
def Sep : (Nat → Prop) → World → List HP → Prop
  | _, _, [] => True
  | U, w, p :: ps => ∃ F : Nat → Prop, (∀ k, F k → U k ∧ k < w.heap.size) ∧ p.P w F ∧ Sep (fun k => U k ∧ ¬ F k) w ps
/-- What a call does: blocks of F alone turn; what it leaves stands in F', in old blocks of F's and in new ones. -/
structure Step (F F' : Nat → Prop) (w w' : World) : Prop where
  os : w'.os = w.os
  tape : w'.tape = w.tape
  output : w'.output = w.output
  size : w.heap.size ≤ w'.heap.size
  block : ∀ i, i < w.heap.size → ¬ F i → w'.heap[i]? = w.heap[i]?
  foot : ∀ i, F' i → F i ∨ w.heap.size ≤ i
theorem Sep.mono {w : World} : ∀ {ps : List HP} {U U' : Nat → Prop}, (∀ k, k < w.heap.size → U k → U' k) → Sep U w ps → Sep U' w ps
  | [], _, _, _, _ => trivial
  | p :: ps, U, U', h, ⟨F, hF, hp, hs⟩ => ⟨F, fun k hk => ⟨h k (hF k hk).2 (hF k hk).1, (hF k hk).2⟩, hp, Sep.mono (fun k hk hu => ⟨h k hk hu.1, hu.2⟩) hs⟩
theorem Sep.move {w w' : World} (hz : w.heap.size ≤ w'.heap.size) : ∀ {ps : List HP} {U : Nat → Prop}, (∀ k, U k → k < w.heap.size → w'.heap[k]? = w.heap[k]?) → Sep U w ps → Sep U w' ps
  | [], _, _, _ => trivial
  | p :: ps, U, h, ⟨F, hF, hp, hs⟩ => ⟨F, fun k hk => ⟨(hF k hk).1, Nat.lt_of_lt_of_le (hF k hk).2 hz⟩, p.move (fun k hk => h k (hF k hk).1 (hF k hk).2) hp, Sep.move hz (fun k hk hlt => h k hk.1 hlt) hs⟩
theorem Sep.swap {w : World} {U : Nat → Prop} {p q : HP} {ps : List HP} : Sep U w (p :: q :: ps) → Sep U w (q :: p :: ps) := by
  rintro ⟨F, hF, hp, G, hG, hq, hs⟩
  refine ⟨G, fun k hk => ⟨(hG k hk).1.1, (hG k hk).2⟩, hq, F, fun k hk => ⟨⟨(hF k hk).1, fun hg => (hG k hg).1.2 hk⟩, (hF k hk).2⟩, hp, Sep.mono (fun k _ hk => ⟨⟨hk.1.1, hk.2⟩, hk.1.2⟩) hs⟩
theorem Sep.cons_mono {w : World} {U : Nat → Prop} {p : HP} {ps qs : List HP} (h : ∀ V, Sep V w ps → Sep V w qs) : Sep U w (p :: ps) → Sep U w (p :: qs) := by
  rintro ⟨F, hF, hp, hs⟩
  exact ⟨F, hF, hp, h _ hs⟩
/-- The n-th one to the front. -/
def lfront : Nat → List HP → List HP
  | 0, ps => ps
  | n + 1, p :: ps => match lfront n ps with
    | [] => [p]
    | q :: qs => q :: p :: qs
  | _ + 1, [] => []
theorem Sep.front {w : World} : ∀ (n : Nat) {ps : List HP} {U : Nat → Prop}, Sep U w ps → Sep U w (lfront n ps)
  | 0, _, _, h => h
  | n + 1, [], _, h => h
  | n + 1, p :: ps, U, h => by
    have h2 : Sep U w (p :: lfront n ps) := Sep.cons_mono (fun V hV => Sep.front n hV) h
    show Sep U w (match lfront n ps with | [] => [p] | q :: qs => q :: p :: qs)
    cases hf : lfront n ps with
    | nil => rw [hf] at h2; exact h2
    | cons q qs => rw [hf] at h2; exact Sep.swap h2
/-- Several parts as one. -/
def all (qs : List HP) : HP where
  P w F := (∀ k, F k → k < w.heap.size) ∧ Sep F w qs
  move := by
    intro w w' F h ⟨h0, h1⟩
    have hlt : ∀ k, F k → k < w'.heap.size := fun k hk => by
      have h3 := h k hk
      rw [Array.getElem?_eq_getElem (h0 k hk)] at h3
      exact (Array.getElem?_eq_some_iff.1 h3).1
    refine ⟨hlt, ?_⟩
    have go : ∀ {ps : List HP} {U : Nat → Prop}, (∀ k, U k → F k) → Sep U w ps → Sep U w' ps := by
      intro ps
      induction ps with
      | nil => intro U _ _; trivial
      | cons p ps ih =>
        intro U hU ⟨G, hG, hp, hs⟩
        exact ⟨G, fun k hk => ⟨(hG k hk).1, hlt k (hU k (hG k hk).1)⟩, p.move (fun k hk => h k (hU k (hG k hk).1)) hp, ih (fun k hk => hU k hk.1) hs⟩
    exact go (fun _ hk => hk) h1
/-- A plain fact beside a part. -/
def and (φ : Prop) (p : HP) : HP where
  P w F := φ ∧ p.P w F
  move := fun h ⟨a, ha⟩ => ⟨a, p.move h ha⟩
theorem Sep.append {w : World} : ∀ {qs : List HP} {U : Nat → Prop} {F : Nat → Prop} {ps : List HP}, (∀ k, F k → U k) → Sep F w qs → Sep (fun k => U k ∧ ¬ F k) w ps → Sep U w (qs ++ ps)
  | [], U, F, ps, _, _, h2 => Sep.mono (fun _ _ h => h.1) h2
  | q :: qs, U, F, ps, hFU, ⟨G, hG, hq, hs⟩, h2 =>
    ⟨G, fun k hk => ⟨hFU k (hG k hk).1, (hG k hk).2⟩, hq, Sep.append (F := fun k => F k ∧ ¬ G k) (fun k hk => ⟨hFU k hk.1, hk.2⟩) hs (Sep.mono (fun k _ hk => ⟨⟨hk.1, fun hg => hk.2 (hG k hg).1⟩, fun hn => hk.2 hn.1⟩) h2)⟩
theorem Sep.parts {w : World} : ∀ {qs : List HP} {U : Nat → Prop} {ps : List HP}, Sep U w (qs ++ ps) → ∃ F : Nat → Prop, (∀ k, F k → U k ∧ k < w.heap.size) ∧ Sep F w qs ∧ Sep (fun k => U k ∧ ¬ F k) w ps
  | [], U, ps, h => ⟨fun _ => False, fun _ h => h.elim, trivial, Sep.mono (fun _ _ hk => ⟨hk, fun h => h⟩) h⟩
  | q :: qs, U, ps, ⟨G, hG, hq, hs⟩ => by
    obtain ⟨F, hF, h1, h2⟩ := Sep.parts hs
    refine ⟨fun k => G k ∨ F k, fun k hk => ?_, ⟨G, fun k hk => ⟨Or.inl hk, (hG k hk).2⟩, hq, Sep.mono (fun k _ hk => ⟨Or.inr hk, (hF k hk).1.2⟩) h1⟩, Sep.mono (fun k _ hk => ⟨hk.1.1, fun hn => hn.elim hk.1.2 hk.2⟩) h2⟩
    rcases hk with hk | hk
    · exact hG k hk
    · exact ⟨(hF k hk).1.1, (hF k hk).2⟩
/-- A part is dropped. -/
theorem Sep.drop {w : World} {U : Nat → Prop} {p : HP} {ps : List HP} : Sep U w (p :: ps) → Sep U w ps := by
  rintro ⟨F, hF, hp, hs⟩
  exact Sep.mono (fun k _ hk => hk.1) hs
/-- Parts, and what was there ahead of the call stays. -/
structure St (w0 w : World) (ps : List HP) : Prop where
  below : Below w0.heap.size w0 w
  sep : Sep (fun k => w0.heap.size ≤ k) w ps
theorem St.start (w : World) : St w w [] := ⟨Below.refl _ _, trivial⟩
section
variable {w0 w w' : World} {ps qs : List HP} {p : HP}
theorem St.front (n : Nat) (h : St w0 w ps) : St w0 w (lfront n ps) := ⟨h.below, h.sep.front n⟩
theorem St.drop (h : St w0 w (p :: ps)) : St w0 w ps := ⟨h.below, h.sep.drop⟩
theorem St.swap {q : HP} (h : St w0 w (p :: q :: ps)) : St w0 w (q :: p :: ps) := ⟨h.below, h.sep.swap⟩
theorem St.size (h : St w0 w ps) : w0.heap.size ≤ w.heap.size := h.below.size
/-- New blocks alone. -/
theorem St.below_ (h : St w0 w ps) (hb : Below w.heap.size w w') : St w0 w' ps :=
  ⟨⟨hb.os.trans h.below.os, hb.tape.trans h.below.tape, hb.output.trans h.below.output, Nat.le_trans h.below.size hb.size, fun i hi => (hb.block i (Nat.lt_of_lt_of_le hi h.below.size)).trans (h.below.block i hi)⟩, h.sep.move hb.size (fun k _ hk => hb.block k hk)⟩
theorem St.drew (h : St w0 w ps) : St w0 w.drew ps := h.below_ (below_drew (Below.refl _ _))
theorem St.drewN (h : St w0 w ps) (n : Nat) : St w0 (w.drewN n) ps := h.below_ (pw_below_drewN (Below.refl _ _) n)
/-- New blocks, and what stands in them. -/
theorem St.new_ (h : St w0 w ps) (hb : Below w.heap.size w w') (F : Nat → Prop) (hF : ∀ k, F k → w.heap.size ≤ k ∧ k < w'.heap.size) (hp : p.P w' F) : St w0 w' (p :: ps) := by
  refine ⟨(h.below_ hb).below, F, fun k hk => ⟨Nat.le_trans h.below.size (hF k hk).1, (hF k hk).2⟩, hp, ?_⟩
  have h1 : Sep (fun k => w0.heap.size ≤ k ∧ k < w.heap.size) w ps := by
    have go : ∀ {ps : List HP} {U : Nat → Prop}, Sep U w ps → Sep (fun k => U k ∧ k < w.heap.size) w ps := fun h => Sep.mono (fun k hk hu => ⟨hu, hk⟩) h
    exact go h.sep
  exact Sep.mono (fun k _ hk => ⟨hk.1, fun hf => by have := (hF k hf).1; omega⟩) (h1.move hb.size (fun k hk hlt => hb.block k hlt))
/-- The first part is taken out, used by a call, and what it leaves laid in its place. -/
theorem St.out (h : St w0 w (p :: ps)) : ∃ F : Nat → Prop, (∀ k, F k → w0.heap.size ≤ k ∧ k < w.heap.size) ∧ p.P w F ∧ (∀ {qs : List HP} {F' : Nat → Prop} {w' : World}, Step F F' w w' → Sep F' w' qs → St w0 w' (qs ++ ps)) := by
  obtain ⟨hb, F, hF, hp, hs⟩ := h
  refine ⟨F, hF, hp, fun {qs F' w'} st hq => ⟨⟨st.os.trans hb.os, st.tape.trans hb.tape, st.output.trans hb.output, Nat.le_trans hb.size st.size, fun i hi => ?_⟩, ?_⟩⟩
  · exact (st.block i (Nat.lt_of_lt_of_le hi hb.size) (fun hk => by have := (hF i hk).1; omega)).trans (hb.block i hi)
  · have hs2 := Sep.mono (U' := fun k => (w0.heap.size ≤ k ∧ ¬ F k) ∧ k < w.heap.size) (fun k hk hu => ⟨hu, hk⟩) hs
    have hs3 := Sep.move st.size (fun k hk hlt => st.block k hlt hk.1.2) hs2
    refine Sep.append (F := F') ?_ hq (Sep.mono (fun k _ hk => ⟨hk.1.1, fun hf => ?_⟩) hs3)
    · intro k hk
      rcases st.foot k hk with h1 | h1
      · exact (hF k h1).1
      · exact Nat.le_trans hb.size h1
    · rcases st.foot k hf with h1 | h1
      · exact hk.1.2 h1
      · omega
/-- A call that knew nothing of the parts: what it made stands beside them. -/
theorem St.trans (h : St w0 w ps) (k : St w w' qs) : St w0 w' (qs ++ ps) := by
  refine ⟨(h.below_ k.below).below, Sep.append (F := fun i => w.heap.size ≤ i) (fun i hi => Nat.le_trans h.below.size hi) k.sep ?_⟩
  have h1 : Sep (fun i => w0.heap.size ≤ i ∧ i < w.heap.size) w ps := Sep.mono (fun i hi hu => ⟨hu, hi⟩) h.sep
  exact Sep.mono (fun i _ hi => ⟨hi.1, by omega⟩) (h1.move k.below.size (fun i hi hlt => k.below.block i hlt))
/-- What the first part tells. -/
theorem St.tells (h : St w0 w (p :: ps)) : ∃ F, p.P w F := by
  obtain ⟨hb, F, hF, hp, hs⟩ := h
  exact ⟨F, hp⟩
end
/-- One part in F'. -/
theorem Sep.one {w : World} {F : Nat → Prop} {p : HP} (hF : ∀ k, F k → k < w.heap.size) (hp : p.P w F) : Sep F w [p] := ⟨F, fun k hk => ⟨hk, hF k hk⟩, hp, trivial⟩
theorem Sep.tells {w : World} {F : Nat → Prop} {p : HP} {ps : List HP} (h : Sep F w (p :: ps)) : ∃ G, (∀ k, G k → F k ∧ k < w.heap.size) ∧ p.P w G := by
  obtain ⟨G, hG, hp, _⟩ := h
  exact ⟨G, hG, hp⟩
/-- A row of a kind, of its own. -/
def row {α : Type} (d : Kd α) (e : Nat) (v : Value) (xs : List α) : HP where
  P w F := d.R e w 0 F v xs
  move := fun h hp => Kd.R_move hp h
/-- A block of cells. -/
def blk (g : Nat) (cs : Array Value) (t : TypeId) : HP where
  P w F := F g ∧ w.heap[g]? = some (.cells cs t (0, 0))
  move := fun h ⟨hg, hb⟩ => ⟨hg, (h _ hg).trans hb⟩
section
variable {w0 w w' : World} {ps qs : List HP} {p : HP} {α : Type} {d : Kd α} {e : Nat} {v : Value} {xs : List α} {ok : Nat → Prop}
theorem St.row_new (h : St w0 w ps) (hb : Below w.heap.size w w') (hr : d.R e w' w.heap.size ok v xs) : St w0 w' (row d e v xs :: ps) :=
  h.new_ hb (fun k => w.heap.size ≤ k ∧ k < w'.heap.size) (fun k hk => hk) (Kd.R_lower (Kd.R_mono (Kd.R_bound hr) (fun k hk => ⟨hk.2.1, hk.2.2.1⟩)) (Nat.zero_le _))
theorem St.alloc (h : St w0 w ps) (o : Obj) : St w0 (w.alloc o) ps := h.below_ (below_alloc (Below.refl _ _) _)
theorem St.row_C {n c : Nat} {A : Option Addr} (h : St w0 w (row d e (.slice A n c) xs :: ps)) : n = xs.length ∧ n ≤ c ∧ d.C w A n xs := by
  obtain ⟨F, hp⟩ := h.tells
  obtain ⟨A', c', he, hl, hc⟩ := Kd.R_reads hp
  injection he with h1 h2 h3
  subst h1 h2 h3
  exact ⟨rfl, hl, hc⟩
theorem Step.set {F : Nat → Prop} {g : Nat} (hg : F g) (i : Nat) (u : Value) : Step F F w (w.setCell ⟨g, i, none⟩ u) :=
  ⟨rfl, rfl, rfl, by simp, fun k _ hk => Below.heap_setCell w _ u k (fun e => hk (e ▸ hg)), fun _ h => Or.inl h⟩
theorem St.blk_set {g : Nat} {cs : Array Value} {t : TypeId} (h : St w0 w (blk g cs t :: ps)) (i : Nat) (u : Value) : St w0 (w.setCell ⟨g, i, none⟩ u) (blk g (cs.setIfInBounds i u) t :: ps) := by
  obtain ⟨F, hF, hp, hs⟩ := h.out
  exact hs (Step.set hp.1 i u) (Sep.one (p := blk g (cs.setIfInBounds i u) t) (fun k hk => by simpa using (hF k hk).2) ⟨hp.1, blk_put hp.2 i u rfl⟩)
theorem Step.grown {F : Nat → Prop} {row : Option Nat} (hg : w.grownBy w' row) (hr : ∀ k, row = some k → F k) : Step F (fun k => (F k ∨ w.heap.size ≤ k) ∧ k < w'.heap.size) w w' :=
  ⟨hg.os, hg.tape, hg.output, hg.size, fun i hi hn => hg.block i hi (fun e => hn (hr i e.symm)), fun i hi => hi.1⟩
end
section
variable {P : Program} {ops : Array Oper} {rest : List Oper} {o : Oper} {a : Act} {Q : Exit → Act → World → Prop} {Kc : Act → World → Prop} {α : Type} {w0 W : World} {ps : List HP} {d : Kd α}
end
section
variable {P : Program} {ops : Array Oper} {rest : List Oper} {o : Oper} {a : Act} {Q : Exit → Act → World → Prop} {α : Type} {w0 W : World} {ps : List HP} {e : Nat} {enc : α → Value} {h1 : ∀ x, (enc x).oneCell' = true}
end
section
variable {P : Program} {ops : Array Oper} {rest : List Oper} {o : Oper} {a : Act} {Q : Exit → Act → World → Prop} {α : Type} {w0 W : World} {ps : List HP} {d : Kd α}
end
end Go.Proofs.YtgklipfeheohkaaDoor.Sep
