import Derived.Test.YtoloibjdiojmlaaProg
import Derived.Test.YtoloibjdiojmlaaWWords
import Derived.Test.YtoloibjdiojmlaaWMore
import Derived.WalkKit
import Derived.OpenShut
import Derived.ChangeOld
import Derived.Deep.Slices
/-! What the reading of a row's argument tells, for the print's walk: whole numbers, bools, strings, slices of what is told, structs. -/
namespace Go.Proofs.Ytoloibjdiojmlaa.Read
open Go.RowKit Go.ChangeShapes Go.WideShapes Go.Deep Go.Proofs.YtoloibjdiojmlaaW.PrintWords Go.Proofs.YtoloibjdiojmlaaW.PrintLast
set_option linter.unusedVariables false
variable {H : Type} {enc : TypeId × Value → H} {P : Program} {W : World} {fuel : Nat} {t : TypeId} {cs : List Value} {x : DataW H × List MemPlace}
theorem okWide_struct {r : Reach} {b0 : Nat} {v : Value} {fs : Array Field} (ht : P.underlying t = some (.struct fs)) (hval : Value.okWide P W r b0 t v) : ∃ cs, v = .agg cs := by
  unfold Value.okWide at hval
  rw [ht] at hval
  obtain ⟨cs, h, _⟩ := hval
  exact ⟨cs, h⟩
theorem int {k : IntKind} (ht : P.underlying t = some (.int k)) (h : DataW.trod enc P W 0 (fun _ => true) true fuel t cs = some x) : ∃ n, cs = [.int k n] ∧ (Lit.int k n).wf = true := by
  obtain ⟨n, e, _, hw⟩ := DataW.trod_int ht h
  exact ⟨n, e, hw⟩
theorem bool (ht : P.underlying t = some .bool) (h : DataW.trod enc P W 0 (fun _ => true) true fuel t cs = some x) : ∃ n, cs = [.bool n] ∧ True := by
  obtain ⟨n, e, _⟩ := DataW.trod_bool ht h
  exact ⟨n, e, trivial⟩
theorem str (ht : P.underlying t = some .string) (h : DataW.trod enc P W 0 (fun _ => true) true fuel t cs = some x) : ∃ n, cs = [.string n] ∧ n.size ≤ maxLen := by
  obtain ⟨n, e, _, hw⟩ := DataW.trod_string ht h
  exact ⟨n, e, hw⟩
theorem struct {fs : Array Field} (ht : P.underlying t = some (.struct fs)) (h : DataW.trod enc P W 0 (fun _ => true) true fuel t cs = some x) :
    cs.length = P.cellsOf t ∧ ∀ (i : Nat) (f : Field), fs.toList[i]? = some f → ∃ n y, DataW.trod enc P W 0 (fun _ => true) true n f.type ((cs.drop f.offset).take (P.cellsOf f.type)) = some y := by
  obtain ⟨xs, n, _, _, hl, hlen, hf⟩ := DataW.trod_struct ht h
  refine ⟨hl, fun i f hi => ?_⟩
  rw [Array.getElem?_toList] at hi
  have hi2 : i < xs.length := by
    obtain ⟨h1, _⟩ := Array.getElem?_eq_some_iff.1 hi
    omega
  exact ⟨n, xs[i], by rw [hf i f hi, List.getElem?_eq_getElem hi2]⟩
theorem okWide_arr {r : Reach} {b0 n : Nat} {e : TypeId} {v : Value} (ht : P.underlying t = some (.array n e)) (hval : Value.okWide P W r b0 t v) : ∃ cs, v = .agg cs := by
  unfold Value.okWide at hval
  rw [ht] at hval
  obtain ⟨cs, h, _⟩ := hval
  exact ⟨cs, h⟩
theorem arr {n : Nat} {e : TypeId} (ht : P.underlying t = some (.array n e)) (h : DataW.trod enc P W 0 (fun _ => true) true fuel t cs = some x) :
    cs.length = P.cellsOf t ∧ ∀ i, i < n → ∃ m y, DataW.trod enc P W 0 (fun _ => true) true m e ((cs.drop (i * P.cellsOf e)).take (P.cellsOf e)) = some y := by
  obtain ⟨xs, m, _, _, hl, hlen, hf⟩ := DataW.trod_array ht h
  refine ⟨hl, fun i hi => ?_⟩
  exact ⟨m, xs[i]'(by omega), by rw [hf i (by omega), List.getElem?_eq_getElem (by omega)]⟩
theorem list_of {α : Type} {Q : Nat → α → Prop} : ∀ (n : Nat), (∀ i, i < n → ∃ a, Q i a) → ∃ l : List α, l.length = n ∧ ∀ i a, l[i]? = some a → Q i a := by
  intro n
  induction n with
  | zero => intro _; exact ⟨[], rfl, fun i a h => by simp at h⟩
  | succ n ih =>
    intro h
    obtain ⟨l, hl, hq⟩ := ih (fun i hi => h i (by omega))
    obtain ⟨a, ha⟩ := h n (by omega)
    refine ⟨l ++ [a], by simp [hl], fun i b hb => ?_⟩
    by_cases hi : i < l.length
    · rw [List.getElem?_append_left hi] at hb; exact hq i b hb
    · rw [List.getElem?_append_right (by omega)] at hb
      have : i - l.length = 0 := by
        obtain ⟨h1, _⟩ := List.getElem?_eq_some_iff.1 hb
        simp at h1; omega
      rw [this] at hb
      simp at hb
      subst hb
      have : i = n := by omega
      rw [this]; exact ha
theorem slice {α : Type} (d : Kd α) (Wf : α → Prop) {e : TypeId} (ht : P.underlying t = some (.slice e)) (hz : P.cellsOf e = d.sz)
    (hE : ∀ fuel cs x, DataW.trod enc P W 0 (fun _ => true) true fuel e cs = some x → ∃ a, d.K W a cs ∧ Wf a)
    (h : DataW.trod enc P W 0 (fun _ => true) true fuel t cs = some x) :
    ∃ (A : Option Addr) (c : Nat) (l : List α), cs = [.slice A l.length c] ∧ l.length ≤ c ∧ d.C W A l.length l ∧ l.length ≤ maxLen ∧ ∀ a ∈ l, Wf a := by
  rcases open_slice ht h with ⟨rfl, _⟩ | ⟨a, len, cap, m, n, D, Pl, rfl, _, hl, hm, hmm, _, hel⟩
  · exact ⟨none, 0, [], rfl, Nat.le_refl _, Kd.C_nil _ _, Nat.zero_le _, fun a ha => by cases ha⟩
  · have hmc : len ≤ m := by rw [hmm]; simp only [if_true]; exact hl
    obtain ⟨l, hll, hq⟩ := list_of (Q := fun i p => ∃ c, W.cells? 0 (a.add (i * P.cellsOf e)) (P.cellsOf e) = some c ∧ d.K W p c ∧ Wf p) len (fun i hi => by
      obtain ⟨c, h1, h2⟩ := hel i (by omega)
      obtain ⟨p, hp, hw⟩ := hE _ _ _ h2
      exact ⟨p, c, h1, hp, hw⟩)
    subst hll
    refine ⟨some a, cap, l, rfl, hl, ⟨rfl, ?_, fun _ => ⟨a, rfl, fun j p hj => ?_⟩⟩, Nat.le_trans hl hm, fun p hp => ?_⟩
    · have : cap ≤ 9223372036854775807 := hm
      omega
    · obtain ⟨c, h1, hp, _⟩ := hq j p hj
      rw [hz] at h1
      have hs := World.cells?_some h1
      refine ⟨c, hs.2.1, hp, fun i u hu => ?_⟩
      have hi : i < d.sz := by have := (List.getElem?_eq_some_iff.1 hu).1; have := hs.2.1; omega
      have h3 := hs.2.2 i hi
      rw [hu] at h3
      rw [← h3]
      by_cases hx : j * d.sz = 0 <;> by_cases hy : i = 0 <;> simp [Addr.add, hx, hy, Nat.add_assoc]
    · obtain ⟨j, hj⟩ := List.mem_iff_getElem?.1 hp
      obtain ⟨c, _, _, hw⟩ := hq j p hj
      exact hw
end Go.Proofs.Ytoloibjdiojmlaa.Read
