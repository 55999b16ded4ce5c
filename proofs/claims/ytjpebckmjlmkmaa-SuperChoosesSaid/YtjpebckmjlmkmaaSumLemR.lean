import Derived.Test.YtjpebckmjlmkmaaSumLem
import Derived.Test.YtjpebckmjlmkmaaPx3
/-! What the sum's printed functions answer, by Crc. -/
namespace Go.Proofs.Ytjpebckmjlmkmaa.SumLem
open Go.RowKit Go.Proofs.Ytjpebckmjlmkmaa.P Go.Proofs.YtjpebckmjlmkmaaW.PrintWords Go.Proofs.YtjpebckmjlmkmaaW.PrintLast
set_option linter.unusedVariables false
set_option linter.unusedSimpArgs false

/-- The eight steps of the reference, from step j on. -/
theorem ref_l1 (l : List Int) (i : Int) (d : Nat) : ∀ (k : Nat) (v : BitVec 32) (j : Int), 0 ≤ j → j ≤ 8 → 8 - j = d → d < k →
    cambiumref02_More.l1 k l (Crc.num v) i j = cambiumref02_More.l0 (k - d - 1) l (Crc.num (Crc.bstpN d v)) (wrap64 (i + 1)) := by
  induction d with
  | zero =>
    intro k v j h0 h1 hd hk
    obtain ⟨k, rfl⟩ : ∃ m, k = m + 1 := ⟨k - 1, by omega⟩
    simp only [cambiumref02_More.l1]
    rw [if_neg (by omega)]
    rfl
  | succ d ih =>
    intro k v j h0 h1 hd hk
    obtain ⟨k, rfl⟩ : ∃ m, k = m + 1 := ⟨k - 1, by omega⟩
    have hw : wrap64 (j + 1) = j + 1 := by unfold wrap64; omega
    have hs : ∀ X : Int → Option Int, (if Int.tmod (Crc.num v) 2 = 1 then X (Go.bits .xor .u32 ((Int.tdiv (Crc.num v) 2) % 4294967296) 2197175160) else X ((Int.tdiv (Crc.num v) 2) % 4294967296)) = X (Crc.num (Crc.bstp v)) := by
      intro X
      rw [← Crc.refStp_num]
      unfold Crc.refStp
      split <;> rfl
    simp only [cambiumref02_More.l1]
    rw [if_pos (by omega), hs (fun x => cambiumref02_More.l1 k l x i (wrap64 (j + 1))), hw, ih k (Crc.bstp v) (j + 1) (by omega) (by omega) (by omega) (by omega), Crc.bstpN_succ, show k + 1 - (d + 1) - 1 = k - d - 1 from by omega]
theorem ref_l0 (l : List Int) (hl : l.length ≤ 9223372036854775806) (d : Nat) : ∀ (k : Nat) (v : BitVec 32) (i : Nat), i ≤ l.length → l.length - i = d → 10 * d < k →
    cambiumref02_More.l0 k l (Crc.num v) i = some (Crc.num (Crc.bfold v (bv (l.drop i)) ^^^ Crc.ones)) := by
  induction d with
  | zero =>
    intro k v i h1 hd hk
    obtain ⟨k, rfl⟩ : ∃ m, k = m + 1 := ⟨k - 1, by omega⟩
    obtain rfl : i = l.length := by omega
    simp only [cambiumref02_More.l0]
    rw [if_neg (by omega), List.drop_length, ← Crc.num_ones, Crc.num_xor]
    rfl
  | succ d ih =>
    intro k v i h1 hd hk
    obtain ⟨k, rfl⟩ : ∃ m, k = m + 1 := ⟨k - 1, by omega⟩
    have hw : wrap64 ((i : Int) + 1) = ((i + 1 : Nat) : Int) := by unfold wrap64; omega
    have hr : rd l (i : Int) = l[i]'(by omega) := by
      unfold rd
      rw [Int.toNat_natCast, List.getD_eq_getElem?_getD, List.getElem?_eq_getElem (by omega)]
      rfl
    simp only [cambiumref02_More.l0]
    rw [if_pos (by omega), if_pos (by omega), Crc.xor32, Crc.of_num]
    show cambiumref02_More.l1 k l (Crc.num _) i 0 = _
    rw [ref_l1 l i 8 k _ 0 (by omega) (by omega) (by omega) (by omega), hw, ih _ _ (i + 1) (by omega) (by omega) (by omega), List.drop_eq_getElem_cons (show i < l.length by omega)]
    have hb : Crc.bstpN 8 (v ^^^ BitVec.ofInt 32 (rd l (i : Int) % 4294967296)) = Crc.bbyte v (BitVec.ofInt 32 (l[i]'(by omega))) := by
      unfold Crc.bbyte
      congr 2
      rw [hr]
      apply BitVec.eq_of_toNat_eq
      rw [BitVec.toNat_ofInt, BitVec.toNat_ofInt]
      congr 1
      omega
    rw [hb]
    rfl
theorem ref_more_is (a : Int) (l : List Int) (h0 : 0 ≤ a) (h1 : a < 4294967296) (hl : l.length ≤ 9223372036854775806) (k : Nat) (hk : 10 * l.length < k) :
    cambiumref02_More.f k a l = some (Crc.num (Crc.crc (BitVec.ofInt 32 a) (bv l))) := by
  unfold cambiumref02_More.f
  have e : a = Crc.num (BitVec.ofInt 32 a) := (Crc.num_of a h0 h1).symm
  rw [e, ← Crc.num_ones, Crc.num_xor, ← e]
  have := ref_l0 l hl l.length k (BitVec.ofInt 32 a ^^^ Crc.ones) 0 (by omega) (by omega) hk
  simpa [Crc.crc] using this
end Go.Proofs.Ytjpebckmjlmkmaa.SumLem
