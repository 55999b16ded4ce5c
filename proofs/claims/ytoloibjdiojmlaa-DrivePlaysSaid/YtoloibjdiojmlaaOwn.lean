import Derived.Test.YtoloibjdiojmlaaWWords
import Derived.Laws.Rows
import Derived.Laws.CopyOwn
import Derived.Laws.CopyRow
import Derived.Deep.Slices
namespace Go.Proofs.Ytoloibjdiojmlaa.Own
open Go.RowKit
set_option linter.unusedVariables false

theorem setRow_alloc_at (w : World) (c cs : Array Value) (t : TypeId) (n : Nat) (hn : n = w.heap.size) : (w.alloc (.cells c t)).setRow n cs = w.alloc (.cells cs t) := by
  subst hn
  have h := (setRow_heap (w.alloc (.cells c t)) w.heap.size c cs t (0, 0) (heap_alloc_new w _))
  unfold World.setRow World.alloc
  congr 1
  apply Array.ext
  · simp
  · intro i h1 h2
    simp only [Array.getElem_modify, Array.getElem_push]
    by_cases e : i < w.heap.size
    · simp [e]
      intro h
      omega
    · have : i = w.heap.size := by simp at h2; omega
      subst this
      simp
theorem setRow_alloc_past (w : World) (o : Obj) (cs : Array Value) (n : Nat) (hn : n < w.heap.size) : (w.alloc o).setRow n cs = (w.setRow n cs).alloc o := by
  unfold World.setRow World.alloc
  congr 1
  apply Array.ext
  · simp
  · intro i h1 h2
    simp only [Array.getElem_modify, Array.getElem_push, Array.size_modify]
    by_cases e : i < w.heap.size
    · simp [e]
    · simp [e]
      intro h
      omega

section
variable {P : Program}
theorem run_storeVar_row (w : World) (g : Nat) (t ty : TypeId) (cur cs : Array Value) (hg : w.heap[g]? = some (.cells cur t (0, 0)))
    (hi : (P.info? ty).map (·.size) = some cs.size) (hz : cs.size = cur.size) (h1 : ∀ v ∈ cs.toList, v.oneCell' = true) :
    (storeVar ty ⟨g, 0, none⟩ (.agg cs)).run P w = .ok () (w.setRow g cs) := by
  cases hq : P.info? ty with
  | none => simp [hq] at hi
  | some i =>
    have hs : i.size = cs.size := by simpa [hq] using hi
    have hst := run_storeCells_at P g 0 t cs.toList 0 cur w hg (by simp [hz]) h1
    have hd : List.drop cs.size cur.toList = [] := by rw [List.drop_eq_nil_iff]; simp [hz]
    simp [hd] at hst
    simp [storeVar, Sem.run_bind, sizeOf, typeInfo, hq, hs, Value.cells, hst]

theorem wpList_store_row {ops : Array Oper} {rest : List Oper} {o : Oper} {a : Act} {w : World} {Q : Exit → Act → World → Prop} (hgd : o.guard = none) (ty : TypeId) (x y : Operand) (ho : o.op = .store ty x y)
    (g : Nat) (hx : a.eval x = .pointer (some ⟨g, 0, none⟩)) (cs : Array Value) (hy : a.eval y = .agg cs) (t : TypeId) (cur : Array Value) (hg : w.heap[g]? = some (.cells cur t (0, 0)))
    (hi : (P.info? ty).map (·.size) = some cs.size) (hz : cs.size = cur.size) (h1 : ∀ v ∈ cs.toList, v.oneCell' = true)
    (h : wpList P ops Q rest (a.put o.dst undef) (w.setRow g cs)) : wpList P ops Q (o :: rest) a w := by
  refine wpList_plain hgd fun K hK => ?_
  unfold Oper.wp
  simp [execOp, ho, hx, hy, Instr.storeAt, Instr.sureAddr, run_storeVar_row w g t ty cur cs hg hi hz h1, Result.andThen]
  exact hK _ _ h
/-- 'a[l:]' of an array in memory, whose elements are one cell each. -/
theorem run_array_from (t e N : Nat) (ht : P.underlying t = some (.array N e)) (he : (P.info? e).map (·.size) = some 1) (g : Nat) (kl : IntKind) (l : Int) (k : Nat) (hl : l = k) (hk : k < N) (W : World) :
    (Instr.sliceAt t (.pointer (some ⟨g, 0, none⟩)) (some (.int kl l)) none none).run P W = .ok (.slice (some ⟨g, k, none⟩) (N - k) (N - k)) W := by
  subst hl
  obtain ⟨i, hi, hs⟩ := Option.map_eq_some_iff.1 he
  have hel : P.elem t = e := by simp [Program.elem, ht]
  have hal : P.arrayLen t = N := by simp [Program.arrayLen, ht]
  rw [run_sliceAt_array_l W t ⟨g, 0, none⟩ (by rw [hel, hal]; exact ht) kl (k : Int) (by omega) (by omega), hel, hal]
  have hne : ¬ N = k := by omega
  simp [sizeOf, typeInfo, hi, hs, slicedAt, Result.andThen, hne]
  unfold Addr.add
  split
  · simp_all
  · simp
end
open Go.Proofs.YtoloibjdiojmlaaW.PrintWords in
/-- A row that is read, from place i on. -/
theorem C_drop {α : Type} {d : Kd α} {w : World} {A : Option Addr} {c : Nat} {xs : List α} (h : Kd.C d w A xs.length xs) (i : Nat) (hi : i ≤ xs.length) (hc : xs.length ≤ c) :
    Kd.C d w (if c = i then A else A.map (·.add (i * d.sz))) (xs.drop i).length (xs.drop i) := by
  refine ⟨rfl, by have := h.2.1; rw [List.length_drop]; omega, fun hp => ?_⟩
  rw [List.length_drop] at hp
  obtain ⟨ad, rfl, hg⟩ := h.2.2 (by omega)
  rw [if_neg (by omega)]
  refine ⟨ad.add (i * d.sz), rfl, fun j p hj => ?_⟩
  rw [List.getElem?_drop] at hj
  obtain ⟨cs, h1, h2, h3⟩ := hg (i + j) p hj
  refine ⟨cs, h1, h2, fun t u hu => ?_⟩
  rw [Go.Deep.add_add, show i * d.sz + (j * d.sz + t) = (i + j) * d.sz + t from by rw [Nat.add_mul, Nat.add_assoc]]
  exact h3 t u hu
open Go.Proofs.YtoloibjdiojmlaaW.PrintWords in
/-- A row that is read, up to place i. -/
theorem C_take {α : Type} {d : Kd α} {w : World} {A : Option Addr} {xs : List α} (h : Kd.C d w A xs.length xs) (i : Nat) (hi : i ≤ xs.length) :
    Kd.C d w A (xs.take i).length (xs.take i) := by
  refine ⟨rfl, by have := h.2.1; rw [List.length_take]; omega, fun hp => ?_⟩
  rw [List.length_take] at hp
  obtain ⟨ad, rfl, hg⟩ := h.2.2 (by omega)
  refine ⟨ad, rfl, fun j p hj => hg j p ?_⟩
  rw [List.getElem?_take] at hj
  split at hj
  · exact hj
  · cases hj
open Go.Proofs.YtoloibjdiojmlaaW.PrintWords in
/-- 'xs[k:]' of a row that is read: where it lies is a letter, and so is what it holds (the walk would write its length anew). -/
theorem cut_drop {P : Program} {α : Type} (d : Kd α) (t e : TypeId) (kl : IntKind) (ht : P.underlying t = some (.slice e)) (hi : (P.info? e).map (·.size) = some d.sz) {w : World} {A : Option Addr} {c : Nat} {xs : List α} (h : Kd.C d w A xs.length xs) (hc : xs.length ≤ c) (k : Nat) (hk : k ≤ xs.length) :
    ∃ (A1 : Option Addr) (ys : List α), Aside0 (ys = xs.drop k) ∧ (∀ W : World, (Instr.slice t (.slice A xs.length c) (some (.int kl (k : Int))) none none).run P W = .ok (.slice A1 ys.length (c - k)) W) ∧ Aside0 (Kd.C d w A1 ys.length ys) ∧ Aside0 (ys.length ≤ c - k) := by
  obtain ⟨i, hi0, hs⟩ := Option.map_eq_some_iff.1 hi
  refine ⟨_, _, ⟨rfl⟩, fun W => ?_, ⟨C_drop h k hk hc⟩, ⟨by rw [List.length_drop]; omega⟩⟩
  rw [List.length_drop]
  have := cut_from (P := P) t e kl ht hi0 d.sz hs A xs.length c k (by omega) (by omega) W
  rw [Int.toNat_natCast] at this
  exact this
open Go.Proofs.YtoloibjdiojmlaaW.PrintWords in
/-- A row of bytes that was laid, with whatever mark. -/
theorem marked_reads (W : World) (e : TypeId) (xs : List Int) (C : Array Value) (m : Nat × Nat) (hC : C = (nums .u8 xs).toArray) (hl : xs.length ≤ 9223372036854775807) : Kd.C (Kd.int .u8) (W.alloc (.cells C e m)) (some ⟨W.heap.size, 0, none⟩) xs.length xs := by
  refine ⟨rfl, hl, fun _ => ⟨_, rfl, fun j p hj => ⟨[.int .u8 p], rfl, rfl, fun i u hu => ?_⟩⟩⟩
  have hi : i = 0 := by
    rcases i with _ | i
    · rfl
    · simp at hu
  subst hi
  simp at hu
  subst hu
  obtain ⟨hlt, hp⟩ := List.getElem?_eq_some_iff.1 hj
  rw [show j * (Kd.int IntKind.u8).sz + 0 = j from by show j * 1 + 0 = j; omega, add_plain]
  subst hC
  rw [cell_of_row _ _ _ _ _ _ (heap_alloc_new W _)]
  simp [nums, hlt, hp]
/-- 'xs[:h:h]'. -/
theorem run_cut3 {P : Program} (t e : TypeId) (kh km : IntKind) (ht : P.underlying t = some (.slice e)) {z : Nat} (hi : (P.info? e).map (·.size) = some z) (A : Option Addr) (n c h : Nat) (hc : h ≤ c) (W : World) :
    (Instr.slice t (.slice A n c) none (some (.int kh (h : Int))) (some (.int km (h : Int)))).run P W = .ok (.slice A h h) W := by
  obtain ⟨i, hi0, hs⟩ := Option.map_eq_some_iff.1 hi
  have hel : P.elem t = e := by simp [Program.elem, ht]
  have ha : (A.map fun x => x.add 0) = A := by cases A <;> simp [Addr.add]
  rw [run_slice_hm W t A n c (by rw [hel]; exact ht) kh km h h (by omega) (by omega) (by omega), hel]
  simp [sizeOf, typeInfo, hi0, hs, sliced, Result.andThen, ha]
end Go.Proofs.Ytoloibjdiojmlaa.Own
