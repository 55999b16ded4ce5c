/- '==' of a superblock with itself; what is read has eight places. -/
import Derived.Test.YtjpebckmjlmkmaaSup9
namespace Go.Proofs.Ytjpebckmjlmkmaa.P
open Go.RowKit Go.Proofs.YtjpebckmjlmkmaaW.PrintWords Go.Proofs.YtjpebckmjlmkmaaW.PrintLast Go.Proofs.YtjpebckmjlmkmaaW.PrintMore Go.Proofs.Ytjpebckmjlmkmaa.NumLem Go.Proofs.Ytjpebckmjlmkmaa.SealLem Go.Proofs.Ytjpebckmjlmkmaa.Sep
set_option linter.unusedVariables false
set_option linter.unusedSimpArgs false
theorem equalIn_vol (d : Nat) (v : VolS) (w : World) : (Op.equalIn (d + 1 + 1) 25 (.agg v.cells.toArray) (.agg v.cells.toArray)).run Try.prog w = .ok true w := by
  have e := eqA_of (P := Try.prog) (d := d + 1) (xs := v.cells.toArray) (ys := v.cells.toArray) (w := w) Try.underlying25 (by kernel_rfl)
    (eqf_cons (by decide) (run_part_plain w (by kernel_rfl) rfl) (run_part_plain w (by kernel_rfl) rfl) (run_equalIn_string w _ _ v.name v.name (by kernel_rfl))
      (eqf_cons (by decide) (run_part_plain w (by kernel_rfl) rfl) (run_part_plain w (by kernel_rfl) rfl) (run_equalIn_bool' w _ _ v.ro v.ro (by kernel_rfl))
        (eqf_cons (by decide) (run_part_plain w (by kernel_rfl) rfl) (run_part_plain w (by kernel_rfl) rfl) (run_equalIn_int w _ _ .i64 .i64 v.root v.root (by kernel_rfl))
          (eqf_last (by decide) (run_part_plain w (by kernel_rfl) rfl) (run_part_plain w (by kernel_rfl) rfl) (run_equalIn_int w _ _ .i64 .i64 v.next v.next (by kernel_rfl))))))
  rw [e]
  simp
theorem part_vol (l : List VolS) (hl : l.length = 8) (i : Nat) (hi : i < 8) (w : World) : (part 25 (volsC l).toArray (i * 4)).run Try.prog w = .ok (.agg (l.getD i .zero).cells.toArray) w := by
  rw [run_part_agg Try.underlying25 rfl (by kernel_rfl), show Try.prog.cellsOf 25 = 4 from by kernel_rfl, List.extract_toArray, show i * 4 = 4 * i from Nat.mul_comm _ _, List.extract_eq_take_drop]
  rw [show 4 * i + 4 - 4 * i = 4 from by omega, volsC_at l i (by omega), List.getD_eq_getElem?_getD, List.getElem?_eq_getElem (by omega)]
  rfl
theorem eqItems_vols (d : Nat) (l : List VolS) (hl : l.length = 8) (w : World) : ∀ (is : List Nat), (∀ i ∈ is, i < 8) → (Op.eqItems (d + 1 + 1) 25 4 (volsC l).toArray (volsC l).toArray is).run Try.prog w = .ok true w
  | [], _ => by simp [Op.eqItems]
  | i :: is, h => by
    have ih := eqItems_vols d l hl w is (fun j hj => h j (List.mem_cons_of_mem _ hj))
    have hp := part_vol l hl i (h i (List.mem_cons_self ..)) w
    simp only [Op.eqItems, Sem.run_bind, hp, equalIn_vol d _ w, Result.andThen_ok]
    simpa using ih
theorem equalIn_vols (d : Nat) (l : List VolS) (hl : l.length = 8) (w : World) : (Op.equalIn (d + 1 + 1 + 1) 26 (.agg (volsC l).toArray) (.agg (volsC l).toArray)).run Try.prog w = .ok true w := by
  obtain ⟨i, hi⟩ := Option.isSome_iff_exists.1 (show (Try.prog.info? 25).isSome = true from by kernel_rfl)
  rw [run_equalIn_array (P := Try.prog) w (d + 1 + 1) _ _ Try.underlying26 hi, show Try.prog.cellsOf 25 = 4 from by kernel_rfl]
  exact eqItems_vols d l hl w _ (fun i hi => List.mem_range.1 hi)
theorem part_vols (s : SupS) (hl : s.vols.length = 8) (w : World) : (part 26 s.cells.toArray 3).run Try.prog w = .ok (.agg (volsC s.vols).toArray) w := by
  rw [run_part_agg Try.underlying26 rfl (by kernel_rfl), show Try.prog.cellsOf 26 = 32 from by kernel_rfl, List.extract_toArray, List.extract_eq_take_drop]
  rw [show s.cells.drop 3 = volsC s.vols from rfl, List.take_of_length_le (by rw [volsC_length, hl]; decide)]
/-- A superblock is the same as itself. -/
theorem eql_sup (s : SupS) (hl : s.vols.length = 8) (w : World) : (binOp .eql 28 (.agg s.cells.toArray) (.agg s.cells.toArray)).run Try.prog w = .ok (.bool true) w := by
  rw [run_eql_struct]
  have e := eqA_of (P := Try.prog) (d := 9999) (xs := s.cells.toArray) (ys := s.cells.toArray) (w := w) Try.underlying28 (by kernel_rfl)
    (eqf_cons (by decide) (run_part_plain w (by kernel_rfl) rfl) (run_part_plain w (by kernel_rfl) rfl) (run_equalIn_int w _ _ .i64 .i64 s.gen s.gen (by kernel_rfl))
      (eqf_cons (by decide) (run_part_plain w (by kernel_rfl) rfl) (run_part_plain w (by kernel_rfl) rfl) (run_equalIn_int w _ _ .i64 .i64 s.sectors s.sectors (by kernel_rfl))
        (eqf_cons (by decide) (run_part_plain w (by kernel_rfl) rfl) (run_part_plain w (by kernel_rfl) rfl) (run_equalIn_int w _ _ .i64 .i64 s.log s.log (by kernel_rfl))
          (eqf_last (by decide) (part_vols s hl w) (part_vols s hl w) (equalIn_vols 9996 s.vols hl w)))))
  rw [show (9999 + 1 : Nat) = 10000 from rfl] at e
  rw [e, Result.andThen_ok]
  congr 2
  simp
theorem read_len {l : List Int} {slot : Int} {s : SupS} (h : readR l slot = some s) : s.vols.length = 8 := by
  unfold readR at h
  split at h
  · rw [← Option.some.inj h]; exact supP_length _ _
  · cases h
theorem supOf_len (l : List Int) (slot : Int) : (supOf (readR l slot)).vols.length = 8 := by
  cases h : readR l slot with
  | none => rfl
  | some s => exact read_len h
end Go.Proofs.Ytjpebckmjlmkmaa.P
