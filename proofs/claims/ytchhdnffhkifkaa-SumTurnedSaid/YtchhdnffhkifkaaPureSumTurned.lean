/- The law SumTurned holds: one byte of a row that is turned into another one turns the row's sum, for every row, place and way. No condition. -/
import Derived.Test.YtchhdnffhkifkaaLem
import Derived.Test.YtchhdnffhkifkaaPx1
import Derived.Laws.BitsLemmas
namespace Go.Proofs.Ytchhdnffhkifkaa.Pure
open Go.RowKit Go.Proofs.Ytchhdnffhkifkaa.P Go.Proofs.Ytchhdnffhkifkaa.SumLem Go.Proofs.Ytchhdnffhkifkaa.Lem Go.Proofs.YtchhdnffhkifkaaW.PrintWords Go.Proofs.YtchhdnffhkifkaaW.PrintLast
/-- A byte turned by a byte that is not nought is another byte. -/
theorem turned_ne (c d : Int) (hc0 : 0 ≤ c) (hc : c < 256) (hd0 : 0 ≤ d) (hd : d < 256) (hne : d ≠ 0) : BitVec.ofInt 32 (Go.bits .xor .u8 c d) ≠ BitVec.ofInt 32 c := by
  have e : Go.bits .xor .u8 c d = ((BitVec.ofInt 8 c ^^^ BitVec.ofInt 8 d).toNat : Int) := by
    have h := (BitVec.ofInt 8 c ^^^ BitVec.ofInt 8 d).isLt
    show IntKind.u8.wrap ((BitVec.ofInt 8 c ^^^ BitVec.ofInt 8 d).toNat : Int) = _
    rw [IntKind.wrap_u8]
    omega
  intro h
  have h2 := congrArg BitVec.toNat h
  rw [BitVec.toNat_ofInt, BitVec.toNat_ofInt, e] at h2
  have h3 := (BitVec.ofInt 8 c ^^^ BitVec.ofInt 8 d).isLt
  have h4 : (BitVec.ofInt 8 c ^^^ BitVec.ofInt 8 d).toNat = (BitVec.ofInt 8 c).toNat := by
    have : (BitVec.ofInt 8 c).toNat = c.toNat := by rw [BitVec.toNat_ofInt]; omega
    omega
  have h5 : BitVec.ofInt 8 c ^^^ BitVec.ofInt 8 d = BitVec.ofInt 8 c := BitVec.eq_of_toNat_eq h4
  have h6 : BitVec.ofInt 8 d = 0#8 := by
    have := congrArg (fun x => BitVec.ofInt 8 c ^^^ x) h5
    simpa [← BitVec.xor_assoc] using this
  have h7 := congrArg BitVec.toNat h6
  rw [BitVec.toNat_ofInt] at h7
  simp at h7
  omega
theorem SumTurned : cambiumlaw02_SumTurned.Pure := by
  intro l at_ by_ _ _ hwf hat hby
  have hl := few_len l
  refine ⟨1, ?_⟩
  unfold cambiumlaw02_SumTurned.f cambiumlaw02_shown.f
  simp only [few_is, Option.bind_some, List.nil_append, List.length_nil]
  rw [if_pos (by omega)]
  have hmem : ∀ x ∈ l.take 600, 0 ≤ x ∧ x < 256 := fun x hx => wf_u8 (hwf x (List.mem_of_mem_take hx))
  generalize l.take 600 = m at *
  by_cases h1 : at_ < 0
  · rw [if_pos h1]; simp [cambiumlaw02_SumTurned.j0]
  rw [if_neg h1]
  by_cases h2 : at_ ≥ (m.length : Int)
  · rw [if_pos h2]; simp [cambiumlaw02_SumTurned.j0]
  rw [if_neg h2]
  by_cases h3 : by_ = 0
  · simp [cambiumlaw02_SumTurned.j0, h3]
  have h3b : (by_ == 0) = false := by simpa using h3
  simp only [cambiumlaw02_SumTurned.j0, h3b, if_true]
  rw [if_neg (by simp), sum_is, sum_is, Option.bind_some, if_pos (by omega), if_pos (by omega), Option.bind_some]
  obtain ⟨i, rfl⟩ : ∃ i : Nat, at_ = i := ⟨at_.toNat, by omega⟩
  have hi : i < m.length := by omega
  have hr : rd m (i : Int) = m[i] := by
    unfold rd
    rw [Int.toNat_natCast, List.getD_eq_getElem?_getD, List.getElem?_eq_getElem hi]
    rfl
  rw [Int.toNat_natCast, hr]
  have hb := wf_u8 hby
  have hc := hmem m[i] (List.getElem_mem hi)
  have hne : Crc.num (Crc.crc 0#32 (bv (m.set i (Go.bits .xor .u8 m[i] by_)))) ≠ Crc.num (Crc.crc 0#32 (bv m)) := by
    intro h
    have h' := Crc.num_inj _ _ h
    have e1 : m.set i (Go.bits .xor .u8 m[i] by_) = m.take i ++ Go.bits .xor .u8 m[i] by_ :: m.drop (i + 1) := List.set_eq_take_append_cons_drop .. |>.trans (by rw [if_pos hi])
    have e2 : m = m.take i ++ m[i] :: m.drop (i + 1) := by rw [← List.drop_eq_getElem_cons hi, List.take_append_drop]
    have e3 : bv m = bv (m.take i) ++ BitVec.ofInt 32 m[i] :: bv (m.drop (i + 1)) := by
      conv => lhs; rw [e2]
      rw [bv_append]; rfl
    rw [e1, bv_append, e3] at h'
    exact turned_ne m[i] by_ hc.1 hc.2 hb.1 hb.2 h3 (Crc.crc_turned _ _ _ _ _ h')
  simpa using hne
end Go.Proofs.Ytchhdnffhkifkaa.Pure
