/- What the bound of a narrowed row gives: the sizes of strings, and of rows of strings, together. -/
import Derived.Test.YtgklipfeheohkaaDoorRead
import Derived.Test.YtgklipfeheohkaaDoorRows
namespace Go.Proofs.YtgklipfeheohkaaDoor.Bulk
open Go.RowKit Go.ChangeShapes Go.WideShapes Go.Deep Go.Proofs.YtgklipfeheohkaaDoorW.PrintWords Go.Proofs.YtgklipfeheohkaaDoorW.PrintLast
set_option linter.unusedVariables false
variable {H : Type} {enc : TypeId × Value → H} {P : Program} {W : World} {fuel : Nat} {t : TypeId} {x : DataW H × List MemPlace}
/-- All the letters of a row of strings. -/
def total (l : List ByteArray) : Nat := (l.map (·.size)).sum
theorem total_cons (a : ByteArray) (l : List ByteArray) : total (a :: l) = a.size + total l := by simp [total]
theorem total_mem : ∀ {l : List ByteArray} {a : ByteArray}, a ∈ l → a.size ≤ total l
  | b :: l, a, h => by
    rw [total_cons]
    rcases List.mem_cons.1 h with rfl | h
    · omega
    · have := total_mem h; omega
theorem total_take : ∀ (l : List ByteArray) (n : Nat), total (l.take n) ≤ total l
  | [], n => by simp
  | b :: l, 0 => Nat.zero_le _
  | b :: l, n + 1 => by
    rw [List.take_succ_cons, total_cons, total_cons]
    have := total_take l n
    omega
theorem str {a : ByteArray} (ht : P.underlying t = some .string) (h : DataW.trod enc P W 0 (fun _ => true) true fuel t [.string a] = some x) : a.size ≤ Rows.uptoBulk x.1 := by
  obtain ⟨s, e, rfl, _⟩ := DataW.trod_string ht h
  injection e with e
  injection e with e
  subst e
  show a.size ≤ a.data.toList.length + 1
  rw [Array.length_toList]
  exact Nat.le_succ _
theorem all_le : ∀ (n : Nat) (l : List ByteArray) (D : Nat → DataW H), l.length = n → (∀ i a, l[i]? = some a → a.size ≤ Rows.uptoBulk (D i)) → total l ≤ Rows.uptoBulkAll ((List.range n).map D)
  | 0, l, D, hl, _ => by
    obtain rfl := List.eq_nil_of_length_eq_zero hl
    exact Nat.zero_le _
  | n + 1, [], D, hl, _ => by cases hl
  | n + 1, a :: l, D, hl, h => by
    have ih := all_le n l (fun i => D (i + 1)) (by simpa using hl) (fun i b hb => h (i + 1) b (by simpa using hb))
    have h0 := h 0 a rfl
    rw [total_cons, List.range_succ_eq_map, List.map_cons, List.map_map]
    have e : (List.range n).map (D ∘ Nat.succ) = (List.range n).map (fun i => D (i + 1)) := rfl
    rw [e]
    simp only [Rows.uptoBulkAll]
    omega
theorem strs {e : TypeId} {A : Option Addr} {c : Nat} {l : List ByteArray} (ht : P.underlying t = some (.slice e)) (he : P.underlying e = some .string) (hz : P.cellsOf e = 1) (hc : l.length ≤ c)
    (h : DataW.trod enc P W 0 (fun _ => true) true fuel t [.slice A l.length c] = some x) (hC : Kd.C Kd.string W A l.length l) : total l ≤ Rows.uptoBulk x.1 := by
  rcases open_slice1 ht hz h with ⟨he', rfl⟩ | ⟨a, len, cap, m, n, V, D, Pl, he', _, hl, hm, hmm, rfl, hel⟩
  · injection he' with he'
    injection he' with _ hlen _
    obtain rfl := List.eq_nil_of_length_eq_zero hlen
    exact Nat.zero_le _
  · injection he' with he'
    injection he' with h1 h2 h3
    subst h1 h2 h3
    simp only [if_true] at hmm
    show total l ≤ Rows.uptoBulkAll _ + Rows.uptoBulkAll _ + 1
    have : total l ≤ Rows.uptoBulkAll ((List.range l.length).map D) := by
      refine all_le l.length l D rfl fun i b hb => ?_
      obtain ⟨hi, hb⟩ := List.getElem?_eq_some_iff.1 hb
      obtain ⟨hcell, htr⟩ := hel i (by omega)
      obtain ⟨ad, hA, hc2⟩ := Kd.at_string hC (i : Int) (Int.natCast_nonneg i) (by omega)
      injection hA with hA
      subst hA
      rw [Int.toNat_natCast] at hc2
      rw [hc2] at hcell
      injection hcell with hcell
      rw [← hcell] at htr
      have := str he htr
      have e2 : rdOf ByteArray.empty l (i : Int) = b := by
        unfold rdOf
        rw [Int.toNat_natCast, List.getD_eq_getElem?_getD, List.getElem?_eq_getElem hi, ← hb]
        rfl
      rw [e2] at this
      exact this
    omega
end Go.Proofs.YtgklipfeheohkaaDoor.Bulk
