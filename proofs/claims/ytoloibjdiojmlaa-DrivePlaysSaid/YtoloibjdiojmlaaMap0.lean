/- A map with int keys as the raw block: what stands at each key; the laws at each operation. -/
import Derived.MapKept
import Derived.Maps.RangeWalk
namespace Go.Proofs.Ytoloibjdiojmlaa.P
open Go.MapKept
set_option linter.unusedVariables false
set_option linter.unusedSimpArgs false

/-- Block b is a map with int keys: m says what stands at each key; n is how many entries it has. -/
def MapAt (w : World) (b : Nat) (m : Int → Option Value) (n : Nat) : Prop :=
  ∃ es clock, w.heap[b]? = some (.map es clock) ∧ Stamped es clock ∧ (∀ x ∈ es.toList, IsKey (.int .i64) x.key) ∧
    (∀ k v, m k = some v ↔ ∃ x ∈ es.toList, x.key = .int .i64 k ∧ x.val = v) ∧ es.size = n

variable {P : Program} {w : World} {mty kt et : TypeId} {b n : Nat} {m : Int → Option Value}

theorem key_one {es : Array MapEntry} {clock : Nat} (hs : Stamped es clock) {i j : Nat} {x y : MapEntry} (hx : es[i]? = some x) (hy : es[j]? = some y) (h : x.key = y.key) : i = j := by
  have hn := hs.2.2
  have h1 : (es.toList.map MapEntry.key)[i]? = some x.key := by simp [hx]
  have h2 : (es.toList.map MapEntry.key)[j]? = some x.key := by simp [hy, h]
  have hi : i < (es.toList.map MapEntry.key).length := (List.getElem?_eq_some_iff.1 h1).1
  exact (List.getElem?_inj hi hn).1 (h1.trans h2.symm)

theorem mem_at {es : Array MapEntry} {x : MapEntry} : x ∈ es.toList ↔ ∃ i : Nat, es[i]? = some x := by
  rw [List.mem_iff_getElem?]; simp

theorem MapAt.look (h : MapAt w b m n) (hm : P.underlying mty = some (.map kt et)) (hd : P.underlying kt = some (.int .i64)) {z : Value} (hz : (zeroValue et).run P w = .ok z w) (k : Int) (c : Bool) :
    (Instr.lookup mty (.map (some b)) (.int .i64 k) c).run P w = .ok (if c then .tuple #[(m k).getD z, .bool (m k).isSome] else (m k).getD z) w := by
  obtain ⟨es, clock, hb, hs, hks, hmk, hn⟩ := h
  have hk : IsKey (.int .i64) (.int .i64 k) := rfl
  rcases findNow_spec hk es.toList 0 hks with ⟨h1, h2⟩ | ⟨j, e, h1, h2, h3⟩
  · have e0 : m k = none := by
      cases hv : m k with
      | none => rfl
      | some v => obtain ⟨x, hx, hxk, _⟩ := (hmk k v).1 hv; exact absurd hxk (h2 x hx)
    simp [Instr.lookup, run_underlying hm, MapKept.run_getObj_map hb, run_checkKey hd hk, run_findKey hd h1, Result.andThen, hz, e0]
  · have he : e ∈ es.toList := List.mem_of_getElem? h2
    have e0 : m k = some e.val := (hmk k e.val).2 ⟨e, he, h3, rfl⟩
    simp [Instr.lookup, run_underlying hm, MapKept.run_getObj_map hb, run_checkKey hd hk, run_findKey hd h1, Result.andThen, e0]

theorem MapAt.made (w : World) : MapAt (w.alloc (.map #[] 0)) w.heap.size (fun _ => none) 0 :=
  ⟨#[], 0, (heap_alloc w _).1, stamped_empty 0, by simp, by simp, rfl⟩

theorem MapAt.store (h : MapAt w b m n) (hm : P.underlying mty = some (.map kt et)) (hd : P.underlying kt = some (.int .i64)) (k : Int) (v : Value) :
    ∃ o, (Instr.mapUpdate mty (.map (some b)) (.int .i64 k) v).run P w = .ok () { w with heap := w.heap.setIfInBounds b o } ∧
      MapAt { w with heap := w.heap.setIfInBounds b o } b (fun j => if j = k then some v else m j) (if (m k).isSome then n else n + 1) := by
  obtain ⟨es, clock, hb, hs, hks, hmk, hn⟩ := h
  have hk : IsKey (.int .i64) (.int .i64 k) := rfl
  rcases findNow_spec hk es.toList 0 hks with ⟨h1, h2⟩ | ⟨j, e, h1, h2, h3⟩
  · have e0 : m k = none := by
      cases hv : m k with
      | none => rfl
      | some v => obtain ⟨x, hx, hxk, _⟩ := (hmk k v).1 hv; exact absurd hxk (h2 x hx)
    refine ⟨.map (es.push { key := .int .i64 k, val := v, born := clock }) (clock + 1), by simp [Instr.mapUpdate, run_underlying hm, MapKept.run_getObj_map hb, run_checkKey hd hk, run_findKey hd h1, MapKept.run_setObj_map _ hb, Result.andThen], _, _, (heap_set hb).1, stamped_push hs h2, ?_, ?_, by simp [hn, e0]⟩
    · intro x hx
      simp only [Array.toList_push, List.mem_append, List.mem_singleton] at hx
      rcases hx with hx | rfl
      · exact hks x hx
      · exact hk
    · intro k' v'
      simp only [Array.toList_push, List.mem_append, List.mem_singleton]
      by_cases hkk : k' = k
      · subst hkk
        simp only [if_true]
        constructor
        · intro q
          cases q
          exact ⟨_, .inr rfl, rfl, rfl⟩
        · rintro ⟨x, hx | rfl, hxk, hxv⟩
          · exact absurd hxk (h2 x hx)
          · exact congrArg some hxv
      · simp only [if_neg hkk]
        rw [hmk]
        constructor
        · rintro ⟨x, hx, q⟩
          exact ⟨x, .inl hx, q⟩
        · rintro ⟨x, hx | rfl, hxk, hxv⟩
          · exact ⟨x, hx, hxk, hxv⟩
          · simp at hxk; exact absurd hxk.symm hkk
  · have hj : es[j]? = some e := by simpa using h2
    have he : e ∈ es.toList := List.mem_of_getElem? h2
    have e0 : m k = some e.val := (hmk k e.val).2 ⟨e, he, h3, rfl⟩
    have hkey : ∀ e', es[j]? = some e' → ({ e' with key := .int .i64 k, val := v } : MapEntry).key = e'.key := fun e' he' => by rw [hj] at he'; cases he'; exact h3.symm
    refine ⟨.map (es.modify j fun e => { e with key := .int .i64 k, val := v }) clock, by simp [Instr.mapUpdate, run_underlying hm, MapKept.run_getObj_map hb, run_checkKey hd hk, run_findKey hd h1, hj, h3, run_keyThatStays hk, MapKept.run_setObj_map _ hb, Result.andThen], _, _, (heap_set hb).1, stamped_modify hs _ _ (fun _ _ => rfl) (fun e' _ he' => hkey e' he'), isKey_modify hks _ _ hkey, ?_, by simp [hn, e0]⟩
    intro k' v'
    by_cases hkk : k' = k
    · subst hkk
      simp only [if_true]
      constructor
      · intro q
        cases q
        exact ⟨{ e with key := .int .i64 k', val := v }, mem_at.2 ⟨j, by simp [Array.getElem?_modify, hj]⟩, rfl, rfl⟩
      · rintro ⟨x, hx, hxk, hxv⟩
        obtain ⟨i, hi⟩ := mem_at.1 hx
        rw [Array.getElem?_modify] at hi
        split at hi
        · next q => subst q; rw [hj] at hi; cases hi; exact congrArg some hxv
        · next q => exact absurd (key_one hs hj hi (h3.trans hxk.symm)) q
    · simp only [if_neg hkk]
      rw [hmk]
      constructor
      · rintro ⟨x, hx, hxk, hxv⟩
        obtain ⟨i, hi⟩ := mem_at.1 hx
        refine ⟨x, mem_at.2 ⟨i, ?_⟩, hxk, hxv⟩
        rw [Array.getElem?_modify, if_neg, hi]
        intro q
        subst q
        rw [hj] at hi; cases hi
        rw [h3] at hxk; simp at hxk; exact hkk hxk.symm
      · rintro ⟨x, hx, hxk, hxv⟩
        obtain ⟨i, hi⟩ := mem_at.1 hx
        rw [Array.getElem?_modify] at hi
        split at hi
        · next q => subst q; rw [hj] at hi; cases hi; simp at hxk; exact absurd hxk.symm hkk
        · exact ⟨x, mem_at.2 ⟨i, hi⟩, hxk, hxv⟩

theorem mem_erase {es : Array MapEntry} {clock j : Nat} (hs : Stamped es clock) {e x : MapEntry} (hj : es[j]? = some e) : x ∈ (es.eraseIdxIfInBounds j).toList ↔ x ∈ es.toList ∧ x.key ≠ e.key := by
  have hjs : j < es.size := (Array.getElem?_eq_some_iff.1 hj).1
  have hsub : (es.eraseIdxIfInBounds j).toList = es.toList.eraseIdx j := by
    unfold Array.eraseIdxIfInBounds
    rw [dif_pos hjs]
    simp
  rw [hsub, List.mem_eraseIdx_iff_getElem?]
  constructor
  · rintro ⟨i, hne, hi⟩
    have hi' : es[i]? = some x := by simpa using hi
    exact ⟨mem_at.2 ⟨i, hi'⟩, fun q => hne (key_one hs hi' hj q)⟩
  · rintro ⟨hx, hne⟩
    obtain ⟨i, hi⟩ := mem_at.1 hx
    refine ⟨i, ?_, by simpa using hi⟩
    rintro rfl
    rw [hi] at hj; cases hj; exact hne rfl

theorem MapAt.drop (h : MapAt w b m n) (hm : P.underlying mty = some (.map kt et)) (hd : P.underlying kt = some (.int .i64)) (k : Int) (ty : TypeId) :
    ∃ o, (Builtin.delete_ #[mty, kt] ty #[.map (some b), .int .i64 k]).run P w = .ok (.tuple #[]) { w with heap := w.heap.setIfInBounds b o } ∧
      MapAt { w with heap := w.heap.setIfInBounds b o } b (fun j => if j = k then none else m j) (if (m k).isSome then n - 1 else n) := by
  obtain ⟨es, clock, hb, hs, hks, hmk, hn⟩ := h
  have hk : IsKey (.int .i64) (.int .i64 k) := rfl
  rcases findNow_spec hk es.toList 0 hks with ⟨h1, h2⟩ | ⟨j, e, h1, h2, h3⟩
  · have e0 : m k = none := by
      cases hv : m k with
      | none => rfl
      | some v => obtain ⟨x, hx, hxk, _⟩ := (hmk k v).1 hv; exact absurd hxk (h2 x hx)
    refine ⟨.map es clock, by simp [Builtin.delete_, run_underlying hm, MapKept.run_getObj_map hb, run_checkKey hd hk, run_findKey hd h1, MapKept.run_setObj_map _ hb, Result.andThen], _, _, (heap_set hb).1, hs, hks, ?_, by simp [hn, e0]⟩
    intro k' v'
    by_cases hkk : k' = k
    · subst hkk
      simp only [if_true]
      exact ⟨fun q => (by cases q), fun ⟨x, hx, hxk, _⟩ => absurd hxk (h2 x hx)⟩
    · simp only [if_neg hkk]
      exact hmk k' v'
  · have hj : es[j]? = some e := by simpa using h2
    have hjs : j < es.size := (Array.getElem?_eq_some_iff.1 hj).1
    have he : e ∈ es.toList := List.mem_of_getElem? h2
    have e0 : m k = some e.val := (hmk k e.val).2 ⟨e, he, h3, rfl⟩
    refine ⟨.map (es.eraseIdxIfInBounds j) clock, by simp [Builtin.delete_, run_underlying hm, MapKept.run_getObj_map hb, run_checkKey hd hk, run_findKey hd h1, MapKept.run_setObj_map _ hb, Result.andThen], _, _, (heap_set hb).1, stamped_erase hs j, fun x hx => hks x ((mem_erase hs hj).1 hx).1, ?_, ?_⟩
    · intro k' v'
      simp only [mem_erase hs hj]
      by_cases hkk : k' = k
      · subst hkk
        simp only [if_true]
        exact ⟨fun q => (by cases q), fun ⟨x, ⟨_, hne⟩, hxk, _⟩ => absurd (hxk.trans h3.symm) hne⟩
      · simp only [if_neg hkk]
        rw [hmk]
        constructor
        · rintro ⟨x, hx, hxk, hxv⟩
          refine ⟨x, ⟨hx, fun q => ?_⟩, hxk, hxv⟩
          rw [h3, hxk] at q; simp at q; exact hkk q
        · rintro ⟨x, ⟨hx, _⟩, hxk, hxv⟩
          exact ⟨x, hx, hxk, hxv⟩
    · unfold Array.eraseIdxIfInBounds
      rw [dif_pos hjs]
      simp [hn, e0]

theorem MapAt.wiped (h : MapAt w b m n) (hm : P.underlying mty = some (.map kt et)) (ty : TypeId) :
    ∃ o, (Builtin.clear_ #[mty] ty #[.map (some b)]).run P w = .ok (.tuple #[]) { w with heap := w.heap.setIfInBounds b o } ∧
      MapAt { w with heap := w.heap.setIfInBounds b o } b (fun _ => none) 0 := by
  obtain ⟨es, clock, hb, hs, hks, hmk, hn⟩ := h
  exact ⟨.map #[] clock, by simp [Builtin.clear_, run_underlying hm, MapKept.run_getObj_map hb, MapKept.run_setObj_map _ hb, Result.andThen], _, _, (heap_set hb).1, stamped_empty clock, by simp, by simp, rfl⟩

theorem MapAt.len (h : MapAt w b m n) (hm : P.underlying mty = some (.map kt et)) (ty : TypeId) :
    (Builtin.len_ #[mty] ty #[.map (some b)]).run P w = .ok (.int .i64 n) w := by
  obtain ⟨es, clock, hb, hs, hks, hmk, hn⟩ := h
  simp [Builtin.len_, run_underlying hm, MapKept.run_getObj_map hb, Result.andThen, hn, goInt]

open Go.ChangeMaps (setBlock)

/-- A range over the map in block b is under way, its iterator in block r: ks are the keys gone through. -/
def Going (w : World) (b r : Nat) (m : Int → Option Value) (n : Nat) (ks : List Int) : Prop :=
  ∃ es clock since seen c0, w.heap[b]? = some (.map es clock) ∧ Stamped es clock ∧ (∀ x ∈ es.toList, IsKey (.int .i64) x.key) ∧
    (∀ k v, m k = some v ↔ ∃ x ∈ es.toList, x.key = .int .i64 k ∧ x.val = v) ∧ es.size = n ∧ w.heap[r]? = some (.mapIter (some b) since seen c0) ∧
    (∀ x ∈ es.toList, x.born < since) ∧ since ≤ c0 ∧ since ≤ clock ∧ (∀ x ∈ es.toList, seen.contains x.born = true ↔ ∃ k ∈ ks, x.key = .int .i64 k) ∧ (leftOf es seen).size + ks.length ≤ n ∧ seen.size = ks.length
/-- How many keys the iterator in block r has gone through. -/
def iterLen (w : World) (r : Nat) : Nat := match w.heap[r]? with | some (.mapIter _ _ seen _) => seen.size | _ => 0
theorem Going.iterLen {r : Nat} {ks : List Int} (h : Going w b r m n ks) : iterLen w r = ks.length := by
  obtain ⟨es, clock, since, seen, c0, hb, hs, hks, hmk, hn, hr, hbo, hsc, hsk, hse, hl, hz⟩ := h
  unfold P.iterLen
  rw [hr]
  exact hz

theorem Going.map {r : Nat} {ks : List Int} (h : Going w b r m n ks) : MapAt w b m n := by
  obtain ⟨es, clock, since, seen, c0, hb, hs, hks, hmk, hn, _⟩ := h
  exact ⟨es, clock, hb, hs, hks, hmk, hn⟩

theorem Going.next {r : Nat} {ks : List Int} (h : Going w b r m n ks) (ty : TypeId) :
    ((∀ k v, m k = some v → k ∈ ks) ∧ (Instr.next (.pointer (some ⟨r, 0, none⟩)) false ty).run P w = .ok (.tuple #[.bool false]) w) ∨
    ∃ k v o w1, m k = some v ∧ k ∉ ks ∧ ks.length < n ∧ (w1 = w ∨ w1 = w.drew) ∧ (Instr.next (.pointer (some ⟨r, 0, none⟩)) false ty).run P w = .ok (.tuple #[.bool true, .int .i64 k, v]) (setBlock w1 r o) ∧
      (Instr.entry (.pointer (some ⟨r, 0, none⟩))).run P (setBlock w1 r o) = .ok (.tuple #[.int .i64 k, v]) (setBlock w1 r o) ∧ Going (setBlock w1 r o) b r m n (k :: ks) := by
  obtain ⟨es, clock, since, seen, c0, hb, hs, hks, hmk, hn, hr, hbo, hsc, hsk, hse, hl, hz⟩ := h
  rcases run_next_at (P := P) w ty r b since c0 seen es clock hr hb hbo hsc with ⟨h0, hrun⟩ | ⟨e, he, w1, hw1, hrun⟩
  · left
    refine ⟨fun k v hv => ?_, hrun⟩
    obtain ⟨x, hx, hxk, _⟩ := (hmk k v).1 hv
    have hc : seen.contains x.born = true := by
      cases q : seen.contains x.born with
      | true => rfl
      | false =>
        have hm : x ∈ (leftOf es seen) := by unfold leftOf; simp only [Array.mem_filter]; exact ⟨by simpa using hx, by rw [q]; rfl⟩
        have := Array.size_pos_of_mem hm
        omega
    obtain ⟨k', hk', q⟩ := (hse x hx).1 hc
    rw [hxk] at q; simp at q; rw [q]; exact hk'
  · right
    obtain ⟨hem, hns⟩ := mem_left he
    obtain ⟨k, hk⟩ : ∃ k, e.key = .int .i64 k := by
      have q := hks e hem
      cases hq : e.key <;> rw [hq] at q <;> simp [IsKey] at q
      subst q; exact ⟨_, rfl⟩
    have hne : b ≠ r := fun q => by subst q; rw [hb] at hr; cases hr
    have hw : w1.heap = w.heap := by rcases hw1 with rfl | rfl <;> rfl
    have hr1 : w1.heap[r]? = some (.mapIter (some b) since seen c0) := by rw [hw]; exact hr
    have hb' : (setBlock w1 r (.mapIter (some b) since (seen.push e.born) clock)).heap[b]? = some (.map es clock) := by
      have := (heap_set (o' := .mapIter (some b) since (seen.push e.born) clock) hr1).2 b hne
      rw [hw] at this
      unfold setBlock
      simp only [hw]
      rw [this]; exact hb
    have hr' : (setBlock w1 r (.mapIter (some b) since (seen.push e.born) clock)).heap[r]? = some (.mapIter (some b) since (seen.push e.born) clock) := (heap_set hr1).1
    have hsh := left_shrinks es seen e he
    refine ⟨k, e.val, _, w1, (hmk k e.val).2 ⟨e, hem, hk, rfl⟩, ?_, by omega, hw1, by rw [hrun, hk], ?_, es, clock, since, _, clock, hb', hs, hks, hmk, hn, hr', hbo, hsk, hsk, ?_, by simp only [List.length_cons]; omega, by simp [hz]⟩
    · intro q
      have := (hse e hem).2 ⟨k, q, hk⟩
      rw [hns] at this; cases this
    · have := run_entry_at (P := P) _ r b since seen es clock e hr' hb' hem hs.2.1
      rw [this, hk]
    · intro x hx
      constructor
      · intro q
        rw [Array.contains_iff_mem, Array.mem_push] at q
        rcases q with q | q
        · obtain ⟨k', h1, h2⟩ := (hse x hx).1 (by rw [Array.contains_iff_mem]; exact q)
          exact ⟨k', .tail _ h1, h2⟩
        · have : x = e := by
            have h1 := find_born x es.toList hs.2.1 hx
            have h2 := find_born e es.toList hs.2.1 hem
            rw [q] at h1
            exact Option.some.inj (h1.symm.trans h2)
          exact ⟨k, .head _, by rw [this]; exact hk⟩
      · rintro ⟨k', h1, h2⟩
        rw [Array.contains_iff_mem, Array.mem_push]
        cases h1 with
        | head =>
          right
          obtain ⟨i, hi⟩ := mem_at.1 hx
          obtain ⟨j, hj⟩ := mem_at.1 hem
          have := key_one hs hi hj (h2.trans hk.symm)
          subst this
          rw [hi] at hj; cases hj; rfl
        | tail _ h1 =>
          left
          rw [← Array.contains_iff_mem]
          exact (hse x hx).2 ⟨k', h1, h2⟩

theorem MapAt.keep {w' : World} (h : MapAt w b m n) (hb : w'.heap[b]? = w.heap[b]?) : MapAt w' b m n := by
  obtain ⟨es, clock, h1, h2⟩ := h
  exact ⟨es, clock, hb.trans h1, h2⟩

theorem MapAt.lt (h : MapAt w b m n) : b < w.heap.size := by
  obtain ⟨es, clock, h1, h2⟩ := h
  exact (Array.getElem?_eq_some_iff.1 h1).1

theorem Going.keep {w' : World} {r : Nat} {ks : List Int} (h : Going w b r m n ks) (hb : w'.heap[b]? = w.heap[b]?) (hr : w'.heap[r]? = w.heap[r]?) : Going w' b r m n ks := by
  obtain ⟨es, clock, since, seen, c0, h1, h2, h3, h4, h5, h6, h7⟩ := h
  exact ⟨es, clock, since, seen, c0, hb.trans h1, h2, h3, h4, h5, hr.trans h6, h7⟩

theorem MapAt.begin (h : MapAt w b m n) (hm : P.underlying mty = some (.map kt et)) :
    ∃ o, (Instr.range mty (.map (some b))).run P w = .ok (.pointer (some ⟨w.heap.size, 0, none⟩)) (w.alloc o) ∧ Going (w.alloc o) b w.heap.size m n [] := by
  have hlt := h.lt
  obtain ⟨es, clock, hb, hs, hks, hmk, hn⟩ := h
  refine ⟨_, run_range_map w mty kt et b es clock hm hb, es, clock, clock, #[], clock, ((heap_alloc w _).2 b hlt).trans hb, hs, hks, hmk, hn, (heap_alloc w _).1, hs.1, Nat.le_refl _, Nat.le_refl _, by simp, ?_, rfl⟩
  unfold leftOf
  simp only [List.length_nil, Nat.add_zero, ← hn]; exact Array.size_filter_le

section ops
variable {ops : Array Oper} {rest : List Oper} {o : Oper} {a : Act} {Q : Exit → Act → World → Prop}

theorem wpList_lookup_at (hg : o.guard = none) (mo x : Operand) (hop : o.op = Op.lookup mty mo x false) (hme : a.eval mo = .map (some b)) (h : MapAt w b m n)
    (hm : P.underlying mty = some (.map kt et)) (hd : P.underlying kt = some (.int .i64)) {z : Value} (hz : (zeroValue et).run P w = .ok z w) (k : Int) (hx : a.eval x = .int .i64 k)
    (hK : wpList P ops Q rest (a.put o.dst ((m k).getD z)) w) : wpList P ops Q (o :: rest) a w := by
  refine wpList_plain hg fun K' hK' => ?_
  have hrun := h.look hm hd hz k false
  unfold Oper.wp
  simp [execOp, hop, hme, hx, hrun, Result.andThen]
  exact hK' _ _ hK

theorem wpList_lookup_ok_at (hg : o.guard = none) (mo x : Operand) (hop : o.op = Op.lookup mty mo x true) (hme : a.eval mo = .map (some b)) (h : MapAt w b m n)
    (hm : P.underlying mty = some (.map kt et)) (hd : P.underlying kt = some (.int .i64)) {z : Value} (hz : (zeroValue et).run P w = .ok z w) (k : Int) (hx : a.eval x = .int .i64 k)
    (hK : wpList P ops Q rest (a.put o.dst (.tuple #[(m k).getD z, .bool (m k).isSome])) w) : wpList P ops Q (o :: rest) a w := by
  refine wpList_plain hg fun K' hK' => ?_
  have hrun := h.look hm hd hz k true
  unfold Oper.wp
  simp [execOp, hop, hme, hx, hrun, Result.andThen]
  exact hK' _ _ hK

theorem wpList_update_at (hg : o.guard = none) (mo x v : Operand) (hop : o.op = Op.mapUpdate mty mo x v) (hme : a.eval mo = .map (some b)) (h : MapAt w b m n)
    (hm : P.underlying mty = some (.map kt et)) (hd : P.underlying kt = some (.int .i64)) (k : Int) (hx : a.eval x = .int .i64 k)
    (hK : ∀ ob, MapAt { w with heap := w.heap.setIfInBounds b ob } b (fun j => if j = k then some (a.eval v) else m j) (if (m k).isSome then n else n + 1) →
      wpList P ops Q rest (a.put o.dst undef) { w with heap := w.heap.setIfInBounds b ob }) : wpList P ops Q (o :: rest) a w := by
  refine wpList_plain hg fun K' hK' => ?_
  obtain ⟨ob, hrun, h1⟩ := h.store hm hd k (a.eval v)
  unfold Oper.wp
  simp [execOp, hop, hme, hx, hrun, Result.andThen]
  exact hK' _ _ (hK ob h1)

theorem wpList_delete_at (hg : o.guard = none) (mo x : Operand) (hop : o.op = Op.call { callee := Callee.builtin Builtin.delete, args := #[mo, x], argTypes := #[mty, kt] }) (hme : a.eval mo = .map (some b)) (h : MapAt w b m n)
    (hm : P.underlying mty = some (.map kt et)) (hd : P.underlying kt = some (.int .i64)) (k : Int) (hx : a.eval x = .int .i64 k)
    (hK : ∀ ob, MapAt { w with heap := w.heap.setIfInBounds b ob } b (fun j => if j = k then none else m j) (if (m k).isSome then n - 1 else n) →
      wpList P ops Q rest (a.put o.dst (.tuple #[])) { w with heap := w.heap.setIfInBounds b ob }) : wpList P ops Q (o :: rest) a w := by
  refine wpList_plain hg fun K' hK' => ?_
  obtain ⟨ob, hrun, h1⟩ := h.drop hm hd k o.type
  unfold Oper.wp
  simp [execOp, hop, resolve, invoke, builtin, hme, hx, hrun, Result.andThen]
  exact hK' _ _ (hK ob h1)

theorem wpList_clear_at (hg : o.guard = none) (mo : Operand) (hop : o.op = Op.call { callee := Callee.builtin Builtin.clear, args := #[mo], argTypes := #[mty] }) (hme : a.eval mo = .map (some b)) (h : MapAt w b m n)
    (hm : P.underlying mty = some (.map kt et))
    (hK : ∀ ob, MapAt { w with heap := w.heap.setIfInBounds b ob } b (fun _ => none) 0 → wpList P ops Q rest (a.put o.dst (.tuple #[])) { w with heap := w.heap.setIfInBounds b ob }) : wpList P ops Q (o :: rest) a w := by
  refine wpList_plain hg fun K' hK' => ?_
  obtain ⟨ob, hrun, h1⟩ := h.wiped hm o.type
  unfold Oper.wp
  simp [execOp, hop, resolve, invoke, builtin, hme, hrun, Result.andThen]
  exact hK' _ _ (hK ob h1)

theorem wpList_len_at (hg : o.guard = none) (mo : Operand) (hop : o.op = Op.call { callee := Callee.builtin Builtin.len, args := #[mo], argTypes := #[mty] }) (hme : a.eval mo = .map (some b)) (h : MapAt w b m n)
    (hm : P.underlying mty = some (.map kt et)) (hK : wpList P ops Q rest (a.put o.dst (.int .i64 n)) w) : wpList P ops Q (o :: rest) a w := by
  refine wpList_plain hg fun K' hK' => ?_
  unfold Oper.wp
  simp [execOp, hop, resolve, invoke, builtin, hme, h.len hm o.type, Result.andThen]
  exact hK' _ _ hK

theorem wpList_range_at (hg : o.guard = none) (mo : Operand) (hop : o.op = Op.range mty mo) (hme : a.eval mo = .map (some b)) (h : MapAt w b m n) (hm : P.underlying mty = some (.map kt et))
    (hK : ∀ ob, Going (w.alloc ob) b w.heap.size m n [] → wpList P ops Q rest (a.put o.dst (.pointer (some ⟨w.heap.size, 0, none⟩))) (w.alloc ob)) : wpList P ops Q (o :: rest) a w := by
  refine wpList_plain hg fun K' hK' => ?_
  obtain ⟨ob, hrun, h1⟩ := h.begin hm
  unfold Oper.wp
  simp [execOp, hop, hme, hrun, Result.andThen]
  exact hK' _ _ (hK ob h1)

theorem wpList_next_at (hg : o.guard = none) (it : Operand) (hop : o.op = Op.next it false) {r : Nat} {ks : List Int} (hit : a.eval it = .pointer (some ⟨r, 0, none⟩)) (h : Going w b r m n ks)
    (hDone : (∀ k v, m k = some v → k ∈ ks) → wpList P ops Q rest (a.put o.dst (.tuple #[.bool false])) w)
    (hMore : ∀ k v ob w1, m k = some v → k ∉ ks → ks.length < n → (w1 = w ∨ w1 = w.drew) → (Instr.entry (.pointer (some ⟨r, 0, none⟩))).run P (setBlock w1 r ob) = .ok (.tuple #[.int .i64 k, v]) (setBlock w1 r ob) →
      Going (setBlock w1 r ob) b r m n (k :: ks) → wpList P ops Q rest (a.put o.dst (.tuple #[.bool true, .int .i64 k, v])) (setBlock w1 r ob)) : wpList P ops Q (o :: rest) a w := by
  refine wpList_plain hg fun K' hK' => ?_
  unfold Oper.wp
  rcases h.next (P := P) o.type with ⟨h0, hrun⟩ | ⟨k, v, ob, w1, h1, h2, h3, h4, hrun, hen, h5⟩
  · simp [execOp, hop, hit, hrun, Result.andThen]
    exact hK' _ _ (hDone h0)
  · simp [execOp, hop, hit, hrun, Result.andThen]
    exact hK' _ _ (hMore k v ob w1 h1 h2 h3 h4 hen h5)

theorem wpList_lookup_at_g (hw : Region.wanted o (yielded ops a.tmps) = true) (mo x : Operand) (hop : o.op = Op.lookup mty mo x false) (hme : a.eval mo = .map (some b)) (h : MapAt w b m n)
    (hm : P.underlying mty = some (.map kt et)) (hd : P.underlying kt = some (.int .i64)) {z : Value} (hz : (zeroValue et).run P w = .ok z w) (k : Int) (hx : a.eval x = .int .i64 k)
    (hK : wpList P ops Q rest (a.put o.dst ((m k).getD z)) w) : wpList P ops Q (o :: rest) a w := by
  refine wpList_step fun K' hK' => ?_
  rw [if_pos hw]
  have hrun := h.look hm hd hz k false
  unfold Oper.wp
  simp [execOp, hop, hme, hx, hrun, Result.andThen]
  exact hK' _ _ hK

theorem wpList_update_at_g (hw : Region.wanted o (yielded ops a.tmps) = true) (mo x v : Operand) (hop : o.op = Op.mapUpdate mty mo x v) (hme : a.eval mo = .map (some b)) (h : MapAt w b m n)
    (hm : P.underlying mty = some (.map kt et)) (hd : P.underlying kt = some (.int .i64)) (k : Int) (hx : a.eval x = .int .i64 k)
    (hK : ∀ ob, MapAt { w with heap := w.heap.setIfInBounds b ob } b (fun j => if j = k then some (a.eval v) else m j) (if (m k).isSome then n else n + 1) →
      wpList P ops Q rest (a.put o.dst undef) { w with heap := w.heap.setIfInBounds b ob }) : wpList P ops Q (o :: rest) a w := by
  refine wpList_step fun K' hK' => ?_
  rw [if_pos hw]
  obtain ⟨ob, hrun, h1⟩ := h.store hm hd k (a.eval v)
  unfold Oper.wp
  simp [execOp, hop, hme, hx, hrun, Result.andThen]
  exact hK' _ _ (hK ob h1)


end ops
end Go.Proofs.Ytoloibjdiojmlaa.P
