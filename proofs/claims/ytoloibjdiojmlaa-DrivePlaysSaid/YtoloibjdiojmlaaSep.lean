import Derived.Test.YtoloibjdiojmlaaOwn
import Derived.Test.YtoloibjdiojmlaaWMore
import Derived.Test.YtoloibjdiojmlaaWLast
import Derived.Test.YtoloibjdiojmlaaWFoot
import Derived.Laws.CopyOwn
/-! Memory in parts: what stands where, part by part; what a call turns, and what it leaves. -/
namespace Go.Proofs.Ytoloibjdiojmlaa.Sep
open Go.RowKit Go.Proofs.YtoloibjdiojmlaaW.PrintWords Go.Proofs.YtoloibjdiojmlaaW.PrintLast
set_option linter.unusedVariables false
/-- A part of memory: what is told of it in a world, and by which blocks. -/
structure HP where
  P : World → (Nat → Prop) → Prop
  move : ∀ {w w' : World} {F : Nat → Prop}, (∀ k, F k → w'.heap[k]? = w.heap[k]?) → P w F → P w' F
/-- Parts that share no block, all within U. -/
def Sep : (Nat → Prop) → World → List HP → Prop
  | _, _, [] => True
  | U, w, p :: ps => ∃ F : Nat → Prop, (∀ k, F k → U k ∧ k < w.heap.size) ∧ p.P w F ∧ Sep (fun k => U k ∧ ¬ F k) w ps
/-- What a call does: blocks of F alone turn; what it leaves stands in F', in old blocks of F's and in new ones. -/
structure Step (F F' : Nat → Prop) (w w' : World) : Prop where
  os : w'.os = w.os
  tape : w'.tape = w.tape
  output : w'.output = w.output
  size : w.heap.size ≤ w'.heap.size
  block : ∀ i, i < w.heap.size → ¬ F i → w'.heap[i]? = w.heap[i]?
  foot : ∀ i, F' i → F i ∨ w.heap.size ≤ i
theorem Sep.mono {w : World} : ∀ {ps : List HP} {U U' : Nat → Prop}, (∀ k, k < w.heap.size → U k → U' k) → Sep U w ps → Sep U' w ps
  | [], _, _, _, _ => trivial
  | p :: ps, U, U', h, ⟨F, hF, hp, hs⟩ => ⟨F, fun k hk => ⟨h k (hF k hk).2 (hF k hk).1, (hF k hk).2⟩, hp, Sep.mono (fun k hk hu => ⟨h k hk hu.1, hu.2⟩) hs⟩
theorem Sep.move {w w' : World} (hz : w.heap.size ≤ w'.heap.size) : ∀ {ps : List HP} {U : Nat → Prop}, (∀ k, U k → k < w.heap.size → w'.heap[k]? = w.heap[k]?) → Sep U w ps → Sep U w' ps
  | [], _, _, _ => trivial
  | p :: ps, U, h, ⟨F, hF, hp, hs⟩ => ⟨F, fun k hk => ⟨(hF k hk).1, Nat.lt_of_lt_of_le (hF k hk).2 hz⟩, p.move (fun k hk => h k (hF k hk).1 (hF k hk).2) hp, Sep.move hz (fun k hk hlt => h k hk.1 hlt) hs⟩
theorem Sep.swap {w : World} {U : Nat → Prop} {p q : HP} {ps : List HP} : Sep U w (p :: q :: ps) → Sep U w (q :: p :: ps) := by
  rintro ⟨F, hF, hp, G, hG, hq, hs⟩
  refine ⟨G, fun k hk => ⟨(hG k hk).1.1, (hG k hk).2⟩, hq, F, fun k hk => ⟨⟨(hF k hk).1, fun hg => (hG k hg).1.2 hk⟩, (hF k hk).2⟩, hp, Sep.mono (fun k _ hk => ⟨⟨hk.1.1, hk.2⟩, hk.1.2⟩) hs⟩
theorem Sep.cons_mono {w : World} {U : Nat → Prop} {p : HP} {ps qs : List HP} (h : ∀ V, Sep V w ps → Sep V w qs) : Sep U w (p :: ps) → Sep U w (p :: qs) := by
  rintro ⟨F, hF, hp, hs⟩
  exact ⟨F, hF, hp, h _ hs⟩
/-- The n-th one to the front. -/
def lfront : Nat → List HP → List HP
  | 0, ps => ps
  | n + 1, p :: ps => match lfront n ps with
    | [] => [p]
    | q :: qs => q :: p :: qs
  | _ + 1, [] => []
theorem Sep.front {w : World} : ∀ (n : Nat) {ps : List HP} {U : Nat → Prop}, Sep U w ps → Sep U w (lfront n ps)
  | 0, _, _, h => h
  | n + 1, [], _, h => h
  | n + 1, p :: ps, U, h => by
    have h2 : Sep U w (p :: lfront n ps) := Sep.cons_mono (fun V hV => Sep.front n hV) h
    show Sep U w (match lfront n ps with | [] => [p] | q :: qs => q :: p :: qs)
    cases hf : lfront n ps with
    | nil => rw [hf] at h2; exact h2
    | cons q qs => rw [hf] at h2; exact Sep.swap h2
/-- Back to the n-th place. -/
def lback : Nat → List HP → List HP
  | 0, ps => ps
  | n + 1, p :: q :: ps => q :: lback n (p :: ps)
  | _ + 1, ps => ps
theorem Sep.back {w : World} : ∀ (n : Nat) {ps : List HP} {U : Nat → Prop}, Sep U w ps → Sep U w (lback n ps)
  | 0, _, _, h => h
  | n + 1, p :: q :: ps, U, h => Sep.cons_mono (fun V hV => Sep.back n hV) (Sep.swap h)
  | n + 1, [], _, h => h
  | n + 1, [p], _, h => h
/-- Several parts as one. -/
def all (qs : List HP) : HP where
  P w F := (∀ k, F k → k < w.heap.size) ∧ Sep F w qs
  move := by
    intro w w' F h ⟨h0, h1⟩
    have hlt : ∀ k, F k → k < w'.heap.size := fun k hk => by
      have h3 := h k hk
      rw [Array.getElem?_eq_getElem (h0 k hk)] at h3
      exact (Array.getElem?_eq_some_iff.1 h3).1
    refine ⟨hlt, ?_⟩
    have go : ∀ {ps : List HP} {U : Nat → Prop}, (∀ k, U k → F k) → Sep U w ps → Sep U w' ps := by
      intro ps
      induction ps with
      | nil => intro U _ _; trivial
      | cons p ps ih =>
        intro U hU ⟨G, hG, hp, hs⟩
        exact ⟨G, fun k hk => ⟨(hG k hk).1, hlt k (hU k (hG k hk).1)⟩, p.move (fun k hk => h k (hU k (hG k hk).1)) hp, ih (fun k hk => hU k hk.1) hs⟩
    exact go (fun _ hk => hk) h1
/-- Some part. -/
def ex {α : Type} (f : α → HP) : HP where
  P w F := ∃ a, (f a).P w F
  move := fun h ⟨a, ha⟩ => ⟨a, (f a).move h ha⟩
/-- A plain fact beside a part. -/
def and (φ : Prop) (p : HP) : HP where
  P w F := φ ∧ p.P w F
  move := fun h ⟨a, ha⟩ => ⟨a, p.move h ha⟩
theorem Sep.out_ex {w : World} {U : Nat → Prop} {α : Type} {f : α → HP} {ps : List HP} : Sep U w (ex f :: ps) → ∃ a, Sep U w (f a :: ps) := by
  rintro ⟨F, hF, ⟨a, hp⟩, hs⟩
  exact ⟨a, F, hF, hp, hs⟩
theorem Sep.in_ex {w : World} {U : Nat → Prop} {α : Type} {f : α → HP} {ps : List HP} (a : α) : Sep U w (f a :: ps) → Sep U w (ex f :: ps) := by
  rintro ⟨F, hF, hp, hs⟩
  exact ⟨F, hF, ⟨a, hp⟩, hs⟩
theorem Sep.out_and {w : World} {U : Nat → Prop} {φ : Prop} {p : HP} {ps : List HP} : Sep U w (and φ p :: ps) → φ ∧ Sep U w (p :: ps) := by
  rintro ⟨F, hF, ⟨a, hp⟩, hs⟩
  exact ⟨a, F, hF, hp, hs⟩
theorem Sep.in_and {w : World} {U : Nat → Prop} {φ : Prop} {p : HP} {ps : List HP} (a : φ) : Sep U w (p :: ps) → Sep U w (and φ p :: ps) := by
  rintro ⟨F, hF, hp, hs⟩
  exact ⟨F, hF, ⟨a, hp⟩, hs⟩
theorem Sep.append {w : World} : ∀ {qs : List HP} {U : Nat → Prop} {F : Nat → Prop} {ps : List HP}, (∀ k, F k → U k) → Sep F w qs → Sep (fun k => U k ∧ ¬ F k) w ps → Sep U w (qs ++ ps)
  | [], U, F, ps, _, _, h2 => Sep.mono (fun _ _ h => h.1) h2
  | q :: qs, U, F, ps, hFU, ⟨G, hG, hq, hs⟩, h2 =>
    ⟨G, fun k hk => ⟨hFU k (hG k hk).1, (hG k hk).2⟩, hq, Sep.append (F := fun k => F k ∧ ¬ G k) (fun k hk => ⟨hFU k hk.1, hk.2⟩) hs (Sep.mono (fun k _ hk => ⟨⟨hk.1, fun hg => hk.2 (hG k hg).1⟩, fun hn => hk.2 hn.1⟩) h2)⟩
theorem Sep.out_all {w : World} {U : Nat → Prop} {qs ps : List HP} : Sep U w (all qs :: ps) → Sep U w (qs ++ ps) := by
  rintro ⟨F, hF, ⟨_, hq⟩, hs⟩
  exact Sep.append (fun k hk => (hF k hk).1) hq hs
theorem Sep.parts {w : World} : ∀ {qs : List HP} {U : Nat → Prop} {ps : List HP}, Sep U w (qs ++ ps) → ∃ F : Nat → Prop, (∀ k, F k → U k ∧ k < w.heap.size) ∧ Sep F w qs ∧ Sep (fun k => U k ∧ ¬ F k) w ps
  | [], U, ps, h => ⟨fun _ => False, fun _ h => h.elim, trivial, Sep.mono (fun _ _ hk => ⟨hk, fun h => h⟩) h⟩
  | q :: qs, U, ps, ⟨G, hG, hq, hs⟩ => by
    obtain ⟨F, hF, h1, h2⟩ := Sep.parts hs
    refine ⟨fun k => G k ∨ F k, fun k hk => ?_, ⟨G, fun k hk => ⟨Or.inl hk, (hG k hk).2⟩, hq, Sep.mono (fun k _ hk => ⟨Or.inr hk, (hF k hk).1.2⟩) h1⟩, Sep.mono (fun k _ hk => ⟨hk.1.1, fun hn => hn.elim hk.1.2 hk.2⟩) h2⟩
    rcases hk with hk | hk
    · exact hG k hk
    · exact ⟨(hF k hk).1.1, (hF k hk).2⟩
theorem Sep.in_all {w : World} {U : Nat → Prop} {ps : List HP} (qs : List HP) (h : Sep U w (qs ++ ps)) : Sep U w (all qs :: ps) := by
  obtain ⟨F, hF, h1, h2⟩ := Sep.parts h
  exact ⟨F, hF, ⟨fun k hk => (hF k hk).2, h1⟩, h2⟩
/-- A part is dropped. -/
theorem Sep.drop {w : World} {U : Nat → Prop} {p : HP} {ps : List HP} : Sep U w (p :: ps) → Sep U w ps := by
  rintro ⟨F, hF, hp, hs⟩
  exact Sep.mono (fun k _ hk => hk.1) hs
/-- Parts, and what was there ahead of the call stays. -/
structure St (w0 w : World) (ps : List HP) : Prop where
  below : Below w0.heap.size w0 w
  sep : Sep (fun k => w0.heap.size ≤ k) w ps
theorem St.start (w : World) : St w w [] := ⟨Below.refl _ _, trivial⟩
section
variable {w0 w w' : World} {ps qs : List HP} {p : HP}
theorem St.front (n : Nat) (h : St w0 w ps) : St w0 w (lfront n ps) := ⟨h.below, h.sep.front n⟩
theorem St.back (n : Nat) (h : St w0 w ps) : St w0 w (lback n ps) := ⟨h.below, h.sep.back n⟩
theorem St.drop (h : St w0 w (p :: ps)) : St w0 w ps := ⟨h.below, h.sep.drop⟩
theorem St.swap {q : HP} (h : St w0 w (p :: q :: ps)) : St w0 w (q :: p :: ps) := ⟨h.below, h.sep.swap⟩
theorem St.out_ex {α : Type} {f : α → HP} (h : St w0 w (ex f :: ps)) : ∃ a, St w0 w (f a :: ps) := by
  obtain ⟨a, ha⟩ := h.sep.out_ex
  exact ⟨a, h.below, ha⟩
theorem St.in_ex {α : Type} {f : α → HP} (a : α) (h : St w0 w (f a :: ps)) : St w0 w (ex f :: ps) := ⟨h.below, h.sep.in_ex a⟩
theorem St.out_and {φ : Prop} (h : St w0 w (and φ p :: ps)) : φ ∧ St w0 w (p :: ps) := ⟨h.sep.out_and.1, h.below, h.sep.out_and.2⟩
theorem St.in_and {φ : Prop} (a : φ) (h : St w0 w (p :: ps)) : St w0 w (and φ p :: ps) := ⟨h.below, h.sep.in_and a⟩
theorem St.out_all (h : St w0 w (all qs :: ps)) : St w0 w (qs ++ ps) := ⟨h.below, h.sep.out_all⟩
theorem St.in_all (qs : List HP) (h : St w0 w (qs ++ ps)) : St w0 w (all qs :: ps) := ⟨h.below, h.sep.in_all⟩
theorem St.size (h : St w0 w ps) : w0.heap.size ≤ w.heap.size := h.below.size
/-- New blocks alone. -/
theorem St.below_ (h : St w0 w ps) (hb : Below w.heap.size w w') : St w0 w' ps :=
  ⟨⟨hb.os.trans h.below.os, hb.tape.trans h.below.tape, hb.output.trans h.below.output, Nat.le_trans h.below.size hb.size, fun i hi => (hb.block i (Nat.lt_of_lt_of_le hi h.below.size)).trans (h.below.block i hi)⟩, h.sep.move hb.size (fun k _ hk => hb.block k hk)⟩
theorem St.drew (h : St w0 w ps) : St w0 w.drew ps := h.below_ (below_drew (Below.refl _ _))
theorem St.drewN (h : St w0 w ps) (n : Nat) : St w0 (w.drewN n) ps := h.below_ (pw_below_drewN (Below.refl _ _) n)
/-- New blocks, and what stands in them. -/
theorem St.new_ (h : St w0 w ps) (hb : Below w.heap.size w w') (F : Nat → Prop) (hF : ∀ k, F k → w.heap.size ≤ k ∧ k < w'.heap.size) (hp : p.P w' F) : St w0 w' (p :: ps) := by
  refine ⟨(h.below_ hb).below, F, fun k hk => ⟨Nat.le_trans h.below.size (hF k hk).1, (hF k hk).2⟩, hp, ?_⟩
  have h1 : Sep (fun k => w0.heap.size ≤ k ∧ k < w.heap.size) w ps := by
    have go : ∀ {ps : List HP} {U : Nat → Prop}, Sep U w ps → Sep (fun k => U k ∧ k < w.heap.size) w ps := fun h => Sep.mono (fun k hk hu => ⟨hu, hk⟩) h
    exact go h.sep
  exact Sep.mono (fun k _ hk => ⟨hk.1, fun hf => by have := (hF k hf).1; omega⟩) (h1.move hb.size (fun k hk hlt => hb.block k hlt))
/-- The first part is taken out, used by a call, and what it leaves laid in its place. -/
theorem St.out (h : St w0 w (p :: ps)) : ∃ F : Nat → Prop, (∀ k, F k → w0.heap.size ≤ k ∧ k < w.heap.size) ∧ p.P w F ∧ (∀ {qs : List HP} {F' : Nat → Prop} {w' : World}, Step F F' w w' → Sep F' w' qs → St w0 w' (qs ++ ps)) := by
  obtain ⟨hb, F, hF, hp, hs⟩ := h
  refine ⟨F, hF, hp, fun {qs F' w'} st hq => ⟨⟨st.os.trans hb.os, st.tape.trans hb.tape, st.output.trans hb.output, Nat.le_trans hb.size st.size, fun i hi => ?_⟩, ?_⟩⟩
  · exact (st.block i (Nat.lt_of_lt_of_le hi hb.size) (fun hk => by have := (hF i hk).1; omega)).trans (hb.block i hi)
  · have hs2 := Sep.mono (U' := fun k => (w0.heap.size ≤ k ∧ ¬ F k) ∧ k < w.heap.size) (fun k hk hu => ⟨hu, hk⟩) hs
    have hs3 := Sep.move st.size (fun k hk hlt => st.block k hlt hk.1.2) hs2
    refine Sep.append (F := F') ?_ hq (Sep.mono (fun k _ hk => ⟨hk.1.1, fun hf => ?_⟩) hs3)
    · intro k hk
      rcases st.foot k hk with h1 | h1
      · exact (hF k h1).1
      · exact Nat.le_trans hb.size h1
    · rcases st.foot k hf with h1 | h1
      · exact hk.1.2 h1
      · omega
/-- A call that knew nothing of the parts: what it made stands beside them. -/
theorem St.trans (h : St w0 w ps) (k : St w w' qs) : St w0 w' (qs ++ ps) := by
  refine ⟨(h.below_ k.below).below, Sep.append (F := fun i => w.heap.size ≤ i) (fun i hi => Nat.le_trans h.below.size hi) k.sep ?_⟩
  have h1 : Sep (fun i => w0.heap.size ≤ i ∧ i < w.heap.size) w ps := Sep.mono (fun i hi hu => ⟨hu, hi⟩) h.sep
  exact Sep.mono (fun i _ hi => ⟨hi.1, by omega⟩) (h1.move k.below.size (fun i hi hlt => k.below.block i hlt))
/-- What the first part tells. -/
theorem St.tells (h : St w0 w (p :: ps)) : ∃ F, p.P w F := by
  obtain ⟨hb, F, hF, hp, hs⟩ := h
  exact ⟨F, hp⟩
end
/-- One part in F'. -/
theorem Sep.one {w : World} {F : Nat → Prop} {p : HP} (hF : ∀ k, F k → k < w.heap.size) (hp : p.P w F) : Sep F w [p] := ⟨F, fun k hk => ⟨hk, hF k hk⟩, hp, trivial⟩
theorem Sep.tells {w : World} {F : Nat → Prop} {p : HP} {ps : List HP} (h : Sep F w (p :: ps)) : ∃ G, (∀ k, G k → F k ∧ k < w.heap.size) ∧ p.P w G := by
  obtain ⟨G, hG, hp, _⟩ := h
  exact ⟨G, hG, hp⟩
/-! The parts that there are. -/
/-- A row of a kind, of its own. -/
def row {α : Type} (d : Kd α) (e : Nat) (v : Value) (xs : List α) : HP where
  P w F := d.R e w 0 F v xs
  move := fun h hp => Kd.R_move hp h
/-- A block of cells. -/
def blk (g : Nat) (cs : Array Value) (t : TypeId) : HP where
  P w F := F g ∧ w.heap[g]? = some (.cells cs t (0, 0))
  move := fun h ⟨hg, hb⟩ => ⟨hg, (h _ hg).trans hb⟩
section
variable {w0 w w' : World} {ps qs : List HP} {p : HP} {α : Type} {d : Kd α} {e : Nat} {v : Value} {xs : List α} {ok : Nat → Prop}
theorem St.row_new (h : St w0 w ps) (hb : Below w.heap.size w w') (hr : d.R e w' w.heap.size ok v xs) : St w0 w' (row d e v xs :: ps) :=
  h.new_ hb (fun k => w.heap.size ≤ k ∧ k < w'.heap.size) (fun k hk => hk) (Kd.R_lower (Kd.R_mono (Kd.R_bound hr) (fun k hk => ⟨hk.2.1, hk.2.2.1⟩)) (Nat.zero_le _))
theorem St.row_nil (h : St w0 w ps) : St w0 w (row d e (.slice none 0 0) [] :: ps) :=
  h.new_ (Below.refl _ _) (fun k => False) (fun k hk => hk.elim) (Kd.R_nil _ _ _ _ _)
theorem St.alloc_ (h : St w0 w ps) (cs : Array Value) (t : TypeId) : St w0 (w.alloc (.cells cs t)) (blk w.heap.size cs t :: ps) :=
  h.new_ (below_alloc (Below.refl _ _) _) (fun k => k = w.heap.size) (fun k hk => by subst hk; simp) ⟨rfl, heap_alloc_new _ _⟩
theorem St.alloc (h : St w0 w ps) (o : Obj) : St w0 (w.alloc o) ps := h.below_ (below_alloc (Below.refl _ _) _)
theorem St.row_reads (h : St w0 w (row d e v xs :: ps)) : ∃ A c, v = .slice A xs.length c ∧ xs.length ≤ c ∧ d.C w A xs.length xs := by
  obtain ⟨F, hp⟩ := h.tells
  exact Kd.R_reads hp
theorem St.row_slice (h : St w0 w (row d e v xs :: ps)) : ∃ A c, v = .slice A xs.length c := by
  obtain ⟨F, hp⟩ := h.tells
  exact Kd.R_slice hp
theorem St.blk_is {g : Nat} {cs : Array Value} {t : TypeId} (h : St w0 w (blk g cs t :: ps)) : w.heap[g]? = some (.cells cs t (0, 0)) := by
  obtain ⟨F, hp⟩ := h.tells
  exact hp.2
theorem St.blk_ge {g : Nat} {cs : Array Value} {t : TypeId} (h : St w0 w (blk g cs t :: ps)) : w0.heap.size ≤ g := by
  obtain ⟨F, hF, hp, _⟩ := h.out
  exact (hF g hp.1).1
theorem St.row_C {n c : Nat} {A : Option Addr} (h : St w0 w (row d e (.slice A n c) xs :: ps)) : n = xs.length ∧ n ≤ c ∧ d.C w A n xs := by
  obtain ⟨F, hp⟩ := h.tells
  obtain ⟨A', c', he, hl, hc⟩ := Kd.R_reads hp
  injection he with h1 h2 h3
  subst h1 h2 h3
  exact ⟨rfl, hl, hc⟩
/-- A row behind a part: it stays where that part's block alone turns. -/
theorem St.row_foot {n c g : Nat} {A : Option Addr} (h : St w0 w (p :: row d e (.slice A n c) xs :: ps)) (hg : ∀ F, p.P w F → F g) : ∀ W', KeepBut w W' g none → d.C W' A n xs := by
  obtain ⟨hb, F, hF, hp, G, hG, hr, hs⟩ := h
  exact Kd.C_foot_own hr (fun k hk e => (hG k hk).1.2 (e ▸ hg F hp))
theorem St.row_string {P : Program} {src dst e1 : TypeId} {A : Option Addr} {n c : Nat} {l : List Int} (h : St w0 w (row (Kd.int .u8) e (.slice A n c) l :: ps)) (hs : P.underlying src = some (.slice e1)) (he : P.underlying e1 = some (.int .u8)) (hd : P.underlying dst = some .string) :
    (convert src dst (.slice A n c)).run P w = .ok (.string (strOfNums l)) w := by
  obtain ⟨rfl, _, hc⟩ := h.row_C
  exact Kd.C_string hs he hd hc
/-- Nothing, in a new block. -/
theorem St.row_empty {enc : α → Value} {h1 : ∀ x, (enc x).oneCell' = true} (h : St w0 w ps) (e : Nat) : St w0 (w.alloc (.cells #[] e)) (row (Kd.scalar enc h1) e (.slice (some ⟨w.heap.size, 0, none⟩) 0 0) [] :: ps) :=
  h.row_new (ok := fun _ => True) (below_alloc (Below.refl _ _) _) (Kd.R_of_own (xs := ([] : List α)) (World.ownsRow_made (e := e) (size := 1) (base := w.heap.size) w #[] 0 (Nat.le_refl _) (by decide) rfl) (fun _ _ => trivial))
theorem Step.set {F : Nat → Prop} {g : Nat} (hg : F g) (i : Nat) (u : Value) : Step F F w (w.setCell ⟨g, i, none⟩ u) :=
  ⟨rfl, rfl, rfl, by simp, fun k _ hk => Below.heap_setCell w _ u k (fun e => hk (e ▸ hg)), fun _ h => Or.inl h⟩
theorem St.blk_set {g : Nat} {cs : Array Value} {t : TypeId} (h : St w0 w (blk g cs t :: ps)) (i : Nat) (u : Value) : St w0 (w.setCell ⟨g, i, none⟩ u) (blk g (cs.setIfInBounds i u) t :: ps) := by
  obtain ⟨F, hF, hp, hs⟩ := h.out
  exact hs (Step.set hp.1 i u) (Sep.one (p := blk g (cs.setIfInBounds i u) t) (fun k hk => by simpa using (hF k hk).2) ⟨hp.1, blk_put hp.2 i u rfl⟩)
/-- A row of noughts, made. -/
theorem St.row_made {enc : α → Value} {h1 : ∀ x, (enc x).oneCell' = true} {z : α} (h : St w0 w ps) (e n : Nat) (hn : n ≤ 9223372036854775807) : St w0 (w.alloc (.cells (madeCells #[enc z] n) e)) (row (Kd.scalar enc h1) e (.slice (some ⟨w.heap.size, 0, none⟩) n n) (List.replicate n z) :: ps) :=
  h.row_new (ok := fun _ => True) (below_alloc (Below.refl _ _) _) (Kd.R_of_own (by rw [List.length_replicate]; exact own_made_of w _ e n (Nat.le_refl _) hn) (fun _ _ => trivial))
/-- A row of single cells: one is read, one is laid anew. -/
theorem St.row_at {enc : α → Value} {h1 : ∀ x, (enc x).oneCell' = true} {n c : Nat} {A : Option Addr} (h : St w0 w (row (Kd.scalar enc h1) e (.slice A n c) xs :: ps)) (i : Nat) (hi : i < n) (z : α) :
    ∃ g, A = some ⟨g, 0, none⟩ ∧ w.cell? ⟨g, i, none⟩ = some (enc (xs.getD i z)) ∧ w.frozen? ⟨g, i, none⟩ = false ∧ ∀ x, St w0 (w.setCell ⟨g, i, none⟩ (enc x)) (row (Kd.scalar enc h1) e (.slice A n c) (xs.set i x) :: ps) := by
  obtain ⟨rfl, _, _⟩ := h.row_C
  obtain ⟨F, hF, hp, hs⟩ := h.out
  have ho := Kd.own_of_R hp
  rcases ho.2 with ⟨h', h''⟩ | ⟨g, cap, cur, h', _, hh, _⟩
  · injection h' with _ h' _
    omega
  · injection h' with h' h2 h3
    subst h' h3
    have ha := own_at_of (d := z) ho (i : Int) (by omega) (by omega)
    rw [Int.toNat_natCast] at ha
    refine ⟨g, rfl, ?_, ha.2, fun x => ?_⟩
    · rw [ha.1]
      unfold rdOf
      rw [Int.toNat_natCast]
    have hst := own_store_of ho (i : Int) x
    rw [Int.toNat_natCast] at hst
    have hg : F g := hp.1 g rfl
    refine hs (qs := [row (Kd.scalar enc h1) e (.slice (some ⟨g, 0, none⟩) xs.length c) (xs.set i x)]) (Step.set hg i _) (Sep.one (fun k hk => by simpa using (hF k hk).2) (Kd.R_of_own (by rw [List.length_set]; exact hst.1) (fun k hk => hp.1 k hk)))
theorem Step.grown {F : Nat → Prop} {row : Option Nat} (hg : w.grownBy w' row) (hr : ∀ k, row = some k → F k) : Step F (fun k => (F k ∨ w.heap.size ≤ k) ∧ k < w'.heap.size) w w' :=
  ⟨hg.os, hg.tape, hg.output, hg.size, fun i hi hn => hg.block i hi (fun e => hn (hr i e.symm)), fun i hi => hi.1⟩
/-- A row has grown in its place, or been laid anew. -/
theorem St.row_grown {ys : List α} {v1 : Value} {b : Nat} (h : St w0 w (row d e v xs :: ps)) (hk : ∀ {F : Nat → Prop}, (∀ k, F k → k < w.heap.size) → d.R e w 0 F v xs → d.R e w' b (fun k => F k ∨ w.heap.size ≤ k) v1 ys) (hg : w.grownBy w' v.ownBlock) : St w0 w' (row d e v1 ys :: ps) := by
  obtain ⟨F, hF, hp, hs⟩ := h.out
  have h1 := hk (fun k hk => (hF k hk).2) hp
  exact hs (Step.grown hg hp.1) (Sep.one (fun k hk => hk.2) (Kd.R_lower (Kd.R_mono (Kd.R_bound h1) (fun k hk => ⟨hk.1, hk.2.2.1⟩)) (Nat.zero_le _)))
end
section
variable {P : Program} {ops : Array Oper} {rest : List Oper} {o : Oper} {a : Act} {Q : Exit → Act → World → Prop} {Kc : Act → World → Prop} {α : Type} {w0 W : World} {ps : List HP} {d : Kd α}
/-- append(v, ys...), behind 'at_builtin'. -/
theorem St.append_rows (hgd : o.guard = none) (s x : Operand) (t e : TypeId) (z : Value) (bytes : Nat)
    (ho : o.op = .call { callee := .builtin .append, args := #[s, x], argTypes := #[t, t] })
    (ht : P.underlying t = some (.slice e)) (hinfo : (P.info? e).map (fun i => (i.zero, i.size, i.bytes)) = some (some z, d.sz, bytes)) (hz : z.cells.size = d.sz) (hs0 : 0 < d.sz) (hb0 : 0 < bytes)
    (v : Value) (xs ys : List α) (A : Option Addr) (m c : Nat) (hs : a.eval s = v) (hx : a.eval x = .slice A m c)
    (H : St w0 W (row d e v xs :: ps)) (HR : d.C W A m ys) (hKM : ∀ x cs, d.K W x cs → d.M W 0 (fun _ => False) x cs)
    (hl : (xs.length + m) * bytes ≤ 140737488355328)
    (h : ∀ v1 w1, St w0 w1 (row d e v1 (xs ++ ys) :: ps) → wpList P ops Q rest (a.put o.dst v1) w1) :
    wpList P ops Q (o :: rest) a W := by
  obtain ⟨F, hF, hp, hs2⟩ := H.out
  refine Kd.R_append_rows d (w0 := W) 0 hgd s x t e z bytes ho ht hinfo hz hs0 hb0 v xs ys A m c (fun k => F k ∨ W.heap.size ≤ k) (fun _ => False) hs hx (Kd.R_mono hp (fun k hk => Or.inl hk)) HR hKM (fun _ h => h.elim) (fun k hk => Or.inr hk) (Below.mono (Below.refl W.heap.size W) (Nat.zero_le _)) (Nat.zero_le _) hl ?_
  intro v1 w1 hr hb hg hat
  refine h v1 w1 (hs2 (qs := [row d e v1 (xs ++ ys)]) (Step.grown hg (fun k hk => hp.1 k hk)) (Sep.one (fun k hk => hk.2) ?_))
  exact Kd.R_mono (Kd.R_bound hr) (fun k hk => ⟨hk.1, hk.2.2.1⟩)
theorem St.append_rows_step (hw : Region.wanted o (yielded ops a.tmps) = true) (s x : Operand) (t e : TypeId) (z : Value) (bytes : Nat)
    (ho : o.op = .call { callee := .builtin .append, args := #[s, x], argTypes := #[t, t] })
    (ht : P.underlying t = some (.slice e)) (hinfo : (P.info? e).map (fun i => (i.zero, i.size, i.bytes)) = some (some z, d.sz, bytes)) (hz : z.cells.size = d.sz) (hs0 : 0 < d.sz) (hb0 : 0 < bytes)
    (v : Value) (xs ys : List α) (A : Option Addr) (m c : Nat) (hs : a.eval s = v) (hx : a.eval x = .slice A m c)
    (H : St w0 W (row d e v xs :: ps)) (HR : d.C W A m ys) (hKM : ∀ x cs, d.K W x cs → d.M W 0 (fun _ => False) x cs)
    (hl : (xs.length + m) * bytes ≤ 140737488355328)
    (h : ∀ v1 w1, St w0 w1 (row d e v1 (xs ++ ys) :: ps) → Kc (a.put o.dst v1) w1) :
    if Region.wanted o (yielded ops a.tmps) = true then Oper.wp P o a W Kc Q else Kc (a.put o.dst undef) W := by
  obtain ⟨F, hF, hp, hs2⟩ := H.out
  refine Kd.R_append_rows_step d (w0 := W) 0 hw s x t e z bytes ho ht hinfo hz hs0 hb0 v xs ys A m c (fun k => F k ∨ W.heap.size ≤ k) (fun _ => False) hs hx (Kd.R_mono hp (fun k hk => Or.inl hk)) HR hKM (fun _ h => h.elim) (fun k hk => Or.inr hk) (Below.mono (Below.refl W.heap.size W) (Nat.zero_le _)) (Nat.zero_le _) hl ?_
  intro v1 w1 hr hb hg hat
  refine h v1 w1 (hs2 (qs := [row d e v1 (xs ++ ys)]) (Step.grown hg (fun k hk => hp.1 k hk)) (Sep.one (fun k hk => hk.2) ?_))
  exact Kd.R_mono (Kd.R_bound hr) (fun k hk => ⟨hk.1, hk.2.2.1⟩)
end
section
variable {P : Program} {ops : Array Oper} {rest : List Oper} {o : Oper} {a : Act} {Q : Exit → Act → World → Prop} {α : Type} {w0 W : World} {ps : List HP} {e : Nat} {enc : α → Value} {h1 : ∀ x, (enc x).oneCell' = true}
/-- copy(d, s) of two rows of the same length, the first one of the call's own. -/
theorem St.copy_all (hgd : o.guard = none) (d s : Operand) (dT sT : TypeId)
    (ho : o.op = .call { callee := .builtin .copy, args := #[d, s], argTypes := #[dT, sT] }) (elem : TypeId) (hu : P.underlying dT = some (.slice elem)) (hsz : (P.info? elem).map (·.size) = some 1)
    (A1 A2 : Option Addr) (n c1 c2 : Nat) (xs ys : List α) (hd : a.eval d = .slice A1 n c1) (hs : a.eval s = .slice A2 n c2)
    (H : St w0 W (row (Kd.scalar enc h1) e (.slice A1 n c1) xs :: ps)) (HR : (Kd.scalar enc h1).C W A2 n ys)
    (h : ∀ w1, St w0 w1 (row (Kd.scalar enc h1) e (.slice A1 n c1) ys :: ps) → wpList P ops Q rest (a.put o.dst (goInt n)) w1) :
    wpList P ops Q (o :: rest) a W := by
  obtain ⟨hn1, hc1, _⟩ := H.row_C
  have hn2 : ys.length = n := HR.1
  by_cases h0 : n = 0
  · subst h0
    obtain rfl : xs = [] := List.eq_nil_of_length_eq_zero hn1.symm
    obtain rfl : ys = [] := List.eq_nil_of_length_eq_zero hn2
    exact wpList_copy_nothing hgd d s dT sT ho elem hu hsz A1 A2 0 c1 0 c2 hd hs rfl (h W H)
  · obtain ⟨F, hF, hp, hst⟩ := H.out
    have hown := Kd.own_of_R hp
    obtain ⟨ad, hA2, hcs⟩ := HR.2.2 (by omega)
    rcases hown.2 with ⟨h', h''⟩ | ⟨g, cap, cur, h', hg0, hh, hle, hmax, hsize, htake⟩
    · injection h' with _ h' _
      omega
    · injection h' with h' h2 h3
      subst h' h3 hA2
      have hsz2 : cur.size = c1 := by omega
      refine wpList_copy_own hgd d s dT sT ho elem hu hsz g 0 n c1 ad n c2 hd hs cur e hh (encs enc ys) (by rw [encs_length, hn2]; exact (Nat.min_self n).symm) ?_ (by rw [encs_length]; omega) ?_ ?_
      · intro j v hj
        obtain ⟨hl, hv⟩ := List.getElem?_eq_some_iff.1 hj
        rw [encs_length] at hl
        obtain ⟨c, _, hc, hcell⟩ := hcs j _ (List.getElem?_eq_getElem hl)
        have hc : c = [enc ys[j]] := hc
        subst hc
        have := hcell 0 _ rfl
        rw [← hv]
        simpa [encs, Kd.scalar] using this
      · intro v hv
        simp only [encs, List.mem_map] at hv
        obtain ⟨x, _, rfl⟩ := hv
        exact h1 x
      · rw [encs_length, hn2]
        refine h _ (hst (qs := [row (Kd.scalar enc h1) e (.slice (some ⟨g, 0, none⟩) n c1) ys]) (F' := F) ⟨rfl, rfl, rfl, by simp, fun i hi hni => setRow_other _ _ _ _ (fun e => hni (e ▸ hp.1 g rfl)), fun _ h => Or.inl h⟩ (Sep.one (fun k hk => by simpa using (hF k hk).2) (Kd.R_of_own ?_ (fun k hk => hp.1 k hk))))
        rw [hn2]
        refine ⟨by rw [encs_length, hn2, Nat.mul_one], .inr ⟨g, c1, _, rfl, hg0, setRow_heap _ _ _ _ _ _ hh, by omega, hmax, ?_, ?_⟩⟩
        · simp [encs_length, hn2]; omega
        · simp [encs_length, hn2]
end
section
variable {P : Program} {ops : Array Oper} {rest : List Oper} {o : Oper} {a : Act} {Q : Exit → Act → World → Prop} {α : Type} {w0 W : World} {ps : List HP} {d : Kd α}
/-- append(v, x) of one row, behind 'at_builtin': the row goes into the greater one. -/
theorem St.append_one {e2 : Nat} (hgd : o.guard = none) (s x : Operand) (t e : TypeId) (z : Value) (bytes : Nat)
    (ho : o.op = .call { callee := .builtin .append, args := #[s, x], argTypes := #[t, t] })
    (ht : P.underlying t = some (.slice e)) (hinfo : (P.info? e).map (fun i => (i.zero, i.size, i.bytes)) = some (some z, 1, bytes)) (hz : z.cells.size = 1) (hb0 : 0 < bytes)
    (v u : Value) (xs : List (List α)) (p : List α) (hs : a.eval s = v) (hx : a.eval x = .slice (some ⟨W.heap.size, 0, none⟩) 1 1)
    (H : St w0 W (row (Kd.slice e2 d) e v xs :: row d e2 u p :: ps)) (hl : (xs.length + 1) * bytes ≤ 140737488355328)
    (h : ∀ v1 w1, St w0 w1 (row (Kd.slice e2 d) e v1 (xs ++ [p]) :: ps) → wpList P ops Q rest (a.put o.dst v1) w1) :
    wpList P ops Q (o :: rest) a (W.alloc (.cells #[u] e)) := by
  obtain ⟨F, hF, ⟨_, F1, hF1, hp1, F2, hF2, hp2, _⟩, hst⟩ := (St.in_all [row (Kd.slice e2 d) e v xs, row d e2 u p] H).out
  refine Kd.R_append (Kd.slice e2 d) (w0 := W) 0 hgd s x t e z bytes ho ht hinfo hz (show 0 < 1 by decide) hb0 v xs p [u] (fun k => F k ∨ W.heap.size ≤ k) F2 hs hx ⟨u, rfl, hp2⟩ (fun k hk => ⟨Or.inl (hF2 k hk).1.1, fun e => (hF2 k hk).1.2 (hp1.1 k e.symm)⟩) (fun k hk => Or.inr hk) (Kd.R_mono hp1 (fun k hk => Or.inl (hF1 k hk).1)) (Below.mono (Below.refl W.heap.size W) (Nat.zero_le _)) (Nat.zero_le _) hl ?_
  intro v1 w1 hr hb hg hat
  refine h v1 w1 (hst (qs := [row (Kd.slice e2 d) e v1 (xs ++ [p])]) (Step.grown hg (fun k hk => (hF1 k (hp1.1 k hk)).1)) (Sep.one (fun k hk => hk.2) ?_))
  exact Kd.R_mono (Kd.R_bound hr) (fun k hk => ⟨hk.1, hk.2.2.1⟩)
/-- Nothing, in a new block, of any kind. -/
theorem St.row_none (h : St w0 W ps) (e : Nat) : St w0 (W.alloc (.cells #[] e)) (row d e (.slice (some ⟨W.heap.size, 0, none⟩) 0 0) [] :: ps) :=
  h.new_ (below_alloc (Below.refl _ _) _) (fun k => k = W.heap.size) (fun k hk => by subst hk; simp) ⟨fun k hk => by simpa [Value.ownBlock] using hk.symm, [], World.ownsRow_made (e := e) (size := d.sz) (base := 0) W #[] 0 (Nat.zero_le _) (by decide) (by simp), Reps.none _ _⟩
end
end Go.Proofs.Ytoloibjdiojmlaa.Sep
