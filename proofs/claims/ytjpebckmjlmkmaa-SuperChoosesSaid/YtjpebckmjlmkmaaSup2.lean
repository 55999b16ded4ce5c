/- What arrays of subvolumes, of names and of bytes answer to an index and to '=='. -/
import Derived.Test.YtjpebckmjlmkmaaSup1
import Derived.Test.YtjpebckmjlmkmaaWEqStruct
import Derived.ChangeKeysEq
namespace Go.Proofs.Ytjpebckmjlmkmaa.P
open Go.RowKit Go.Proofs.YtjpebckmjlmkmaaW.PrintWords Go.Proofs.YtjpebckmjlmkmaaW.PrintLast Go.Proofs.YtjpebckmjlmkmaaW.PrintMore Go.Proofs.Ytjpebckmjlmkmaa.NumLem Go.Proofs.Ytjpebckmjlmkmaa.SealLem
set_option linter.unusedVariables false
set_option linter.unusedSimpArgs false
theorem isAgg_of {P : Program} {t : TypeId} {d : TypeDesc} (h : P.underlying t = some d) (hd : d.isRow = true) (w : World) : (isAgg t).run P w = .ok true w := by
  unfold isAgg
  rw [Sem.run_bind, run_underlying h w]
  cases d <;> simp_all
/-- A part of several cells. -/
theorem run_part_agg {P : Program} {t : TypeId} {d : TypeDesc} (h : P.underlying t = some d) (hd : d.isRow = true) (hi : (P.info? t).isSome = true) (C : Array Value) (o : Nat) (w : World) : (part t C o).run P w = .ok (.agg (C.extract o (o + P.cellsOf t))) w := by
  obtain ⟨i, hi⟩ := Option.isSome_iff_exists.1 hi
  unfold part
  simp only [Sem.run_bind, isAgg_of h hd w, Result.andThen_ok, if_true, run_sizeOf w hi, Sem.run_pure]
/-- The i-th of an array of arrays or structs. -/
theorem run_index_agg {P : Program} {t e : TypeId} {n : Nat} {d : TypeDesc} (hu : P.underlying t = some (.array n e)) (h : P.underlying e = some d) (hd : d.isRow = true) (hi : (P.info? e).isSome = true) (C : Array Value) (i : Nat) (hin : i < n) (w : World) :
    (Instr.index t (.agg C) (.int .i64 i)).run P w = .ok (.agg (C.extract (i * P.cellsOf e) (i * P.cellsOf e + P.cellsOf e))) w := by
  simp only [Instr.index, asIntOf, Sem.run_bind, Sem.run_pure, Result.andThen_ok, run_underlying hu w]
  rw [if_pos (⟨by omega, by omega⟩ : (0 : Int) ≤ (i : Int) ∧ (i : Int) < (n : Int)), Int.toNat_natCast]
  obtain ⟨inf, hi2⟩ := Option.isSome_iff_exists.1 hi
  simp only [Sem.run_bind, run_sizeOf w hi2, Result.andThen_ok]
  exact run_part_agg h hd hi C _ w
/-- The i-th of an array of single cells. -/
theorem run_index_one {P : Program} {t e : TypeId} {n : Nat} (hu : P.underlying t = some (.array n e)) (he : P.plainKey e = true) (hi : (P.info? e).isSome = true) (h1 : P.cellsOf e = 1) (C : Array Value) (i : Nat) (hin : i < n) (v : Value) (hv : C[i]? = some v) (w : World) :
    (Instr.index t (.agg C) (.int .i64 i)).run P w = .ok v w := by
  simp only [Instr.index, asIntOf, Sem.run_bind, Sem.run_pure, Result.andThen_ok, run_underlying hu w]
  rw [if_pos (⟨by omega, by omega⟩ : (0 : Int) ≤ (i : Int) ∧ (i : Int) < (n : Int)), Int.toNat_natCast]
  obtain ⟨inf, hi2⟩ := Option.isSome_iff_exists.1 hi
  simp only [Sem.run_bind, run_sizeOf w hi2, Result.andThen_ok, h1, Nat.mul_one]
  exact run_part_plain w he hv
theorem vols_index (l : List VolS) (hl : l.length = 8) (i : Nat) (hi : i < 8) (w : World) :
    (Instr.index 26 (.agg (volsC l).toArray) (.int .i64 i)).run Try.prog w = .ok (.agg (l.getD i .zero).cells.toArray) w := by
  rw [run_index_agg Try.underlying26 Try.underlying25 rfl (by kernel_rfl) _ i hi w]
  rw [show Try.prog.cellsOf 25 = 4 from by kernel_rfl, List.extract_toArray, show i * 4 = 4 * i from Nat.mul_comm _ _, List.extract_eq_take_drop]
  rw [show 4 * i + 4 - 4 * i = 4 from by omega, volsC_at l i (by omega), List.getD_eq_getElem?_getD, List.getElem?_eq_getElem (by omega)]
  rfl
/-- The names of the first i. -/
def seenAt (l : List VolS) (i k : Nat) : ByteArray := if k < i then (l.getD k .zero).name else ⟨#[]⟩
def seenC (l : List VolS) (i : Nat) : Array Value := ((List.range 8).map fun k => Value.string (seenAt l i k)).toArray
theorem seenC_size (l : List VolS) (i : Nat) : (seenC l i).size = 8 := by simp [seenC]
theorem seenC_at (l : List VolS) (i k : Nat) (hk : k < 8) : (seenC l i)[k]? = some (.string (seenAt l i k)) := by
  unfold seenC
  rw [List.getElem?_toArray, List.getElem?_map, List.getElem?_range hk]
  rfl
theorem seenC_zero (l : List VolS) : seenC l 0 = #[.string ⟨#[]⟩, .string ⟨#[]⟩, .string ⟨#[]⟩, .string ⟨#[]⟩, .string ⟨#[]⟩, .string ⟨#[]⟩, .string ⟨#[]⟩, .string ⟨#[]⟩] := rfl
theorem seenC_set (l : List VolS) (i : Nat) (hi : i < 8) : (seenC l i).setIfInBounds i (.string (l.getD i .zero).name) = seenC l (i + 1) := by
  apply Array.ext_getElem?
  intro k
  rw [Array.getElem?_setIfInBounds, seenC_size]
  by_cases hk : k < 8
  · by_cases e : i = k
    · subst e
      rw [if_pos rfl, if_pos hi, seenC_at _ _ _ hk]
      unfold seenAt
      rw [if_pos (by omega)]
    · rw [if_neg e, seenC_at _ _ _ hk, seenC_at _ _ _ hk]
      unfold seenAt
      by_cases h : k < i
      · rw [if_pos h, if_pos (by omega)]
      · rw [if_neg h, if_neg (by omega)]
  · rw [if_neg (by omega), Array.getElem?_eq_none (by rw [seenC_size]; omega), Array.getElem?_eq_none (by rw [seenC_size]; omega)]
theorem seenC_same (l : List VolS) (i : Nat) (h : isZ (l.getD i .zero) = true) : seenC l i = seenC l (i + 1) := by
  unfold seenC
  congr 1
  apply List.map_congr_left
  intro k _
  unfold seenAt
  by_cases h1 : k < i
  · rw [if_pos h1, if_pos (by omega)]
  · rw [if_neg h1]
    by_cases h2 : k < i + 1
    · obtain rfl : k = i := by omega
      rw [if_pos h2, (isZ_iff _).1 h]
      rfl
    · rw [if_neg h2]
theorem seen_index (l : List VolS) (i k : Nat) (hk : k < 8) (w : World) : (Instr.index 62 (.agg (seenC l i)) (.int .i64 k)).run Try.prog w = .ok (.string (seenAt l i k)) w :=
  run_index_one Try.underlying62 (by kernel_rfl) (by kernel_rfl) (by kernel_rfl) _ k hk _ (seenC_at l i k hk) w
/-- '==' with no subvolume at all. -/
theorem eql_zero (v : VolS) (w : World) : (binOp .eql 25 (.agg v.cells.toArray) (.agg #[.string ⟨#[]⟩, .bool false, .int .i64 0, .int .i64 0])).run Try.prog w = .ok (.bool (isZ v)) w := by
  rw [run_eql_struct]
  have e := eqA_of (P := Try.prog) (d := 9999) (xs := v.cells.toArray) (ys := #[.string ⟨#[]⟩, .bool false, .int .i64 0, .int .i64 0]) (w := w) Try.underlying25 (by kernel_rfl)
    (eqf_cons (by decide) (run_part_plain w (by kernel_rfl) rfl) (run_part_plain w (by kernel_rfl) rfl) (run_equalIn_string w _ _ v.name ⟨#[]⟩ (by kernel_rfl))
      (eqf_cons (by decide) (run_part_plain w (by kernel_rfl) rfl) (run_part_plain w (by kernel_rfl) rfl) (run_equalIn_bool' w _ _ v.ro false (by kernel_rfl))
        (eqf_cons (by decide) (run_part_plain w (by kernel_rfl) rfl) (run_part_plain w (by kernel_rfl) rfl) (run_equalIn_int w _ _ .i64 .i64 v.root 0 (by kernel_rfl))
          (eqf_last (by decide) (run_part_plain w (by kernel_rfl) rfl) (run_part_plain w (by kernel_rfl) rfl) (run_equalIn_int w _ _ .i64 .i64 v.next 0 (by kernel_rfl))))))
  rw [show (9999 + 1 : Nat) = 10000 from rfl] at e
  rw [e, Result.andThen_ok]
  congr 2
  unfold isZ
  congr 1
  · by_cases h : v.name = ⟨#[]⟩
    · rw [h]; decide +kernel
    · rw [decide_eq_false h]
      refine beq_false_of_ne fun e => h ?_
      rw [ByteArray.toList_eq, ByteArray.toList_eq] at e
      generalize v.name = n at e
      obtain ⟨⟨n⟩⟩ := n
      obtain rfl : n = [] := e
      rfl
  · congr 1
    cases v.ro <;> rfl
end Go.Proofs.Ytjpebckmjlmkmaa.P
