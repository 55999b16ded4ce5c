/- A sector full of a byte; which of n kinds. -/
import Derived.Test.YtoloibjdiojmlaaDrv6
namespace Go.Proofs.Ytoloibjdiojmlaa.P
open Go.RowKit Go.Proofs.YtoloibjdiojmlaaW.PrintWords Go.Proofs.YtoloibjdiojmlaaW.PrintLast Go.Proofs.YtoloibjdiojmlaaW.PrintMore Go.Proofs.Ytoloibjdiojmlaa.Sep
set_option linter.unusedVariables false
set_option linter.unusedSimpArgs false
attribute [local go_sem] max2_int min2_int max_two min_two max_three min_three max_four min_four
def kindR (c n : Int) : Int := (if c < 0 then -(c + 1) else c) % n
theorem kindR_range (c n : Int) (hn : 0 < n) : 0 ≤ kindR c n ∧ kindR c n < n := ⟨Int.emod_nonneg _ (by omega), Int.emod_lt_of_pos _ hn⟩
theorem i64_range {c : Int} (h : (Lit.int .i64 c).wf = true) : -9223372036854775808 ≤ c ∧ c ≤ 9223372036854775807 := by
  have e1 : IntKind.i64.min = -9223372036854775808 := rfl
  have e2 : IntKind.i64.max = 9223372036854775807 := rfl
  simp [Lit.wf] at h
  omega
theorem law03_kind.st (c n : Int) (hc : -9223372036854775808 ≤ c ∧ c ≤ 9223372036854775807) (hn : 0 < n) (hn2 : n ≤ 100000) (w : World) :
    Calls Try.prog 11 #[.int .i64 c, .int .i64 n] w fun e w' => e = .returned (.int .i64 (kindR c n)) ∧ w = w' := by
  obtain ⟨h1, h2⟩ := hc
  unfold kindR
  by_cases h : c < 0
  · have h3 : decide (c < 0) = true := decide_eq_true h
    rw [if_pos h]
    go_enter Try.func11, Try.ntmps11
    go_wp2
    go_ret
    refine ⟨?_, rfl⟩
    show Ending.returned (.int .i64 (-(Int.tmod (c + 1) n))) = _
    rw [← Int.neg_tmod, Int.tmod_eq_emod_of_nonneg (by omega)]
  · have h3 : decide (c < 0) = false := decide_eq_false h
    rw [if_neg h]
    go_enter Try.func11, Try.ntmps11
    go_wp2
    go_ret
    exact ⟨rfl, rfl⟩
def fillS (c : Int) : List Int := List.replicate 256 (c % 256)
theorem fillS_ok (c : Int) : Sec (fillS c) := ⟨by unfold fillS; rw [List.length_replicate], fun y hy => by
  rw [List.eq_of_mem_replicate hy]
  omega⟩
def midF (c : Int) (i : Nat) : List Int := List.replicate i (c % 256) ++ List.replicate (256 - i) 0
theorem midF_len (c : Int) (i : Nat) (h : i ≤ 256) : (midF c i).length = 256 := by unfold midF; simp; omega
theorem midF_next (c : Int) (i : Nat) (h : i < 256) : (midF c i).set i (c % 256) = midF c (i + 1) := by
  unfold midF
  rw [List.set_append_right _ _ (by simp), List.length_replicate, Nat.sub_self, show 256 - i = (256 - (i + 1)) + 1 from by omega, List.replicate_succ, List.set_cons_zero, List.replicate_succ', List.append_assoc]
  rfl
theorem infou8 : (Try.prog.info? 5).map (fun i => (i.zero, i.size, i.bytes)) = some (some (.int .u8 0), 1, 1) := by kernel_rfl
theorem inc256 (j : Nat) (h : j < 256) : wrap64 ((j : Int) + 1) = ((j + 1 : Nat) : Int) := by unfold wrap64; omega
theorem meas256 (z : Nat) (h : z < 256) (y : Int) (hy : y = ((z + 1 : Nat) : Int)) : 256 - (intOf (.int .i64 y)).toNat < 256 - (intOf (.int .i64 (z : Int))).toNat := by
  subst hy
  simp only [intOf, Int.toNat_natCast]
  omega
section
variable {w0 w : World} {ps : List HP}
set_option maxHeartbeats 2000000 in
theorem law03_filled.st (h : St w0 w ps) (c : Int) :
    Calls Try.prog 13 #[.int .i64 c] w fun e w' => ∃ g, e = .returned (.slice (some ⟨g, 0, none⟩) 256 256) ∧ St w0 w' (row (Kd.int .u8) 5 (.slice (some ⟨g, 0, none⟩) 256 256) (fillS c) :: ps) := by
  have HH := Aside0.mk h
  clear h
  have hmk : ∀ W : World, (Instr.makeSlice 33 (.int .i64 256) (.int .i64 256)).run Try.prog W = .ok (.slice (some ⟨W.heap.size, 0, none⟩) 256 256) (W.alloc (.cells (madeCells #[.int .u8 0] 256) 5)) := fun W => print_make_of (P := Try.prog) 33 5 (.int .u8 0) 1 Try.underlying33 infou8 rfl (by decide) 256 (by omega) W
  have HS0 := Aside0.mk (HH.out.row_made (enc := Value.int .u8) (h1 := fun _ => rfl) (z := (0 : Int)) 5 256 (by omega))
  obtain ⟨g, hg⟩ : ∃ g, w.heap.size = g := ⟨_, rfl⟩
  rw [hg] at HS0
  go_enter Try.func13, Try.ntmps13
  go_wp2_with fail
  clear hmk
  go_loopw [4] (fun ix wr => ∃ i : Nat, ix = .int .i64 (i : Int) ∧ i ≤ 256 ∧ Aside0 (St w0 wr (row (Kd.int .u8) 5 (.slice (some ⟨g, 0, none⟩) 256 256) (midF c i) :: ps))) (fun ix _ => 256 - (intOf ix).toNat)
  case atStart => exact ⟨0, rfl, Nat.zero_le _, HS0⟩
  case round =>
    clear HS0
    obtain ⟨i, rfl, hi, HS⟩ := hrel
    by_cases hlt : i < 256
    · have h1 : decide ((i : Int) < 256) = true := decide_eq_true (by omega)
      have h2 : (i : Int) < 256 := by omega
      have HM := Aside0.mk (meas256 i hlt)
      obtain ⟨g', hA, hc, hf, hset⟩ := HS.out.row_at i hlt 0
      injection hA with hA
      injection hA with hA
      subst hA
      have HSET := Aside0.mk (hset (c % 256))
      rw [midF_next c i hlt] at HSET
      have hwp : IntKind.u8.wrap c = c % 256 := IntKind.wrap_u8' c
      have HLT := Aside0.mk hlt
      clear hset hi hlt
      go_wp2_with fail
      go_roundw
      case rel => exact ⟨i + 1, rfl, HLT.out, HSET⟩
      case measure => exact HM.out _ rfl
    · have h1 : decide ((i : Int) < 256) = false := decide_eq_false (by omega)
      have h2 : ¬ (i : Int) < 256 := by omega
      have hie : i = 256 := by omega
      have HI := Aside0.mk (hie ▸ HS.out)
      clear hi hlt hie
      go_wp2_with fail
      go_ret
      have h9 := HI.out
      unfold midF at h9
      rw [Nat.sub_self, List.replicate_zero, List.append_nil] at h9
      exact ⟨g, rfl, h9⟩
end
end Go.Proofs.Ytoloibjdiojmlaa.P
