/- The law NumBack holds: a number below 256^n that is laid in n bytes is read as it was, with what stands behind it. No condition. -/
import Derived.Test.YtimnbcblejcmcaaLem
import Derived.Test.YtimnbcblejcmcaaPx2
namespace Go.Proofs.Ytimnbcblejcmcaa.Pure
open Go.RowKit Go.Proofs.Ytimnbcblejcmcaa.P Go.Proofs.Ytimnbcblejcmcaa.NumLem Go.Proofs.YtimnbcblejcmcaaW.PrintWords Go.Proofs.YtimnbcblejcmcaaW.PrintLast
/-- A mask of 8 n ones leaves a number below 256^n. -/
theorem masked (x : Int) (n : Nat) (h : 1 ≤ n) (h2 : n ≤ 7) : 0 ≤ Go.bits .and .i64 x (wrap64 ((shl .i64 1 (wrap64 (8 * (n : Int)))) - 1)) ∧ Go.bits .and .i64 x (wrap64 ((shl .i64 1 (wrap64 (8 * (n : Int)))) - 1)) < 256 ^ n := by
  have key : ∀ m : Nat, m < 2 ^ 62 → 0 ≤ Go.bits .and .i64 x (m : Int) ∧ Go.bits .and .i64 x (m : Int) ≤ m := by
    intro m hm
    have hm' : m < 4611686018427387904 := hm
    have e : (BitVec.ofInt 64 x &&& BitVec.ofInt 64 (m : Int)).toNat ≤ m := by
      rw [BitVec.toNat_and]
      refine Nat.le_trans Nat.and_le_right ?_
      rw [BitVec.ofInt_natCast, BitVec.toNat_ofNat]
      exact Nat.mod_le _ _
    have e2 : Go.bits .and .i64 x (m : Int) = ((BitVec.ofInt 64 x &&& BitVec.ofInt 64 (m : Int)).toNat : Int) := by
      show IntKind.i64.wrap ((BitVec.ofInt 64 x &&& BitVec.ofInt 64 (m : Int)).toNat : Int) = _
      generalize (BitVec.ofInt 64 x &&& BitVec.ofInt 64 (m : Int)).toNat = q at e
      rw [IntKind.wrap_i64]
      omega
    rw [e2]
    omega
  have hh : n = 1 ∨ n = 2 ∨ n = 3 ∨ n = 4 ∨ n = 5 ∨ n = 6 ∨ n = 7 := by omega
  rcases hh with h | h | h | h | h | h | h <;> subst h
  · have k := key 255 (by decide); rw [show wrap64 ((shl .i64 1 (wrap64 (8 * ((1 : Nat) : Int)))) - 1) = ((255 : Nat) : Int) from by decide +kernel]; exact ⟨k.1, Int.lt_of_le_of_lt k.2 (by decide)⟩
  · have k := key 65535 (by decide); rw [show wrap64 ((shl .i64 1 (wrap64 (8 * ((2 : Nat) : Int)))) - 1) = ((65535 : Nat) : Int) from by decide +kernel]; exact ⟨k.1, Int.lt_of_le_of_lt k.2 (by decide)⟩
  · have k := key 16777215 (by decide); rw [show wrap64 ((shl .i64 1 (wrap64 (8 * ((3 : Nat) : Int)))) - 1) = ((16777215 : Nat) : Int) from by decide +kernel]; exact ⟨k.1, Int.lt_of_le_of_lt k.2 (by decide)⟩
  · have k := key 4294967295 (by decide); rw [show wrap64 ((shl .i64 1 (wrap64 (8 * ((4 : Nat) : Int)))) - 1) = ((4294967295 : Nat) : Int) from by decide +kernel]; exact ⟨k.1, Int.lt_of_le_of_lt k.2 (by decide)⟩
  · have k := key 1099511627775 (by decide); rw [show wrap64 ((shl .i64 1 (wrap64 (8 * ((5 : Nat) : Int)))) - 1) = ((1099511627775 : Nat) : Int) from by decide +kernel]; exact ⟨k.1, Int.lt_of_le_of_lt k.2 (by decide)⟩
  · have k := key 281474976710655 (by decide); rw [show wrap64 ((shl .i64 1 (wrap64 (8 * ((6 : Nat) : Int)))) - 1) = ((281474976710655 : Nat) : Int) from by decide +kernel]; exact ⟨k.1, Int.lt_of_le_of_lt k.2 (by decide)⟩
  · have k := key 72057594037927935 (by decide); rw [show wrap64 ((shl .i64 1 (wrap64 (8 * ((7 : Nat) : Int)))) - 1) = ((72057594037927935 : Nat) : Int) from by decide +kernel]; exact ⟨k.1, Int.lt_of_le_of_lt k.2 (by decide)⟩
theorem NumBack : cambiumlaw01_NumBack.Pure := by
  intro n x l _ _ _ _ hwf
  have hl := few_len l
  have hb := (Bytes.of_wf hwf).take 1000
  refine ⟨1, ?_⟩
  unfold cambiumlaw01_NumBack.f cambiumlaw01_shown.f
  simp only [few_is, Option.bind_some]
  generalize l.take 1000 = m at *
  by_cases h1 : n < 1
  · rw [if_pos h1]; simp [cambiumlaw01_NumBack.j0]
  rw [if_neg h1]
  by_cases h2 : n > 7
  · simp [cambiumlaw01_NumBack.j0, h2]
  have h2b : decide (n > 7) = false := by simpa using h2
  rw [h2b]
  obtain ⟨i, rfl⟩ : ∃ i : Nat, n = i := ⟨n.toNat, by omega⟩
  have hm := masked x i (by omega) (by omega)
  simp only [cambiumlaw01_NumBack.j0]
  rw [if_neg (by decide), if_pos (by rw [w64_small (by omega) (by omega)]; omega)]
  generalize Go.bits .and .i64 x (wrap64 ((shl .i64 1 (wrap64 (8 * (i : Int)))) - 1)) = v at *
  have hv : v < 256 ^ 7 := Int.lt_of_lt_of_le hm.2 (pow256 (by omega))
  have hv' : v < 72057594037927936 := hv
  have e : putR [] v i = digits v i := by
    unfold putR
    rw [if_neg (by omega), u64_of hm.1 (by omega)]
    simp
  rw [Put_is _ _ _ (by simp), e, Option.bind_some]
  have hdl := digits_length i v
  simp only [Option.bind_some, List.nil_append, List.length_nil]
  rw [if_pos (by omega), if_pos (by omega), Take_is _ _ ((digits_bytes i v).append hb) (by rw [List.length_append]; omega), Option.bind_some]
  have et : takeR (digits v i ++ m) i = (v, m, 0) := by
    unfold takeR
    rw [if_neg (by omega), if_neg (by rw [List.length_append]; omega), Int.toNat_natCast]
    rw [List.take_append_of_le_length (by omega), List.drop_append_of_le_length (by omega), List.take_of_length_le (by omega), List.drop_of_length_le (by omega), val_digits, Int.emod_eq_of_lt hm.1 hm.2]
    simp
  rw [et]
  simp [hdl]
end Go.Proofs.Ytimnbcblejcmcaa.Pure
