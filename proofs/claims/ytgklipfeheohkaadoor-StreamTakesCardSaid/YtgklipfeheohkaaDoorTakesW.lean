import Derived.Test.YtgklipfeheohkaaDoorNumCore
import Derived.Test.YtgklipfeheohkaaDoorPx6
import Derived.Test.YtgklipfeheohkaaDoorNumLem
import Derived.Test.YtgklipfeheohkaaDoorPx11
import Derived.Test.YtgklipfeheohkaaDoorNumRow
import Derived.Test.YtgklipfeheohkaaDoorPx12
import Derived.Test.YtgklipfeheohkaaDoorSumLem
import Derived.Test.YtgklipfeheohkaaDoorStreamP
import Derived.Test.YtgklipfeheohkaaDoorPx4
import Derived.Test.YtgklipfeheohkaaDoorPx5
import Derived.Test.YtgklipfeheohkaaDoorPx7
import Derived.Test.YtgklipfeheohkaaDoorPx10
import Derived.Lib.Bytes
import Derived.Test.YtgklipfeheohkaaDoorPx14
import Derived.Test.YtgklipfeheohkaaDoorPx13
import Derived.Test.YtgklipfeheohkaaDoorRows
import Derived.Test.YtgklipfeheohkaaDoorPx15
section
namespace Go.Proofs.YtgklipfeheohkaaDoor.NumLem
open Go.RowKit Go.Proofs.YtgklipfeheohkaaDoor.P Go.Proofs.YtgklipfeheohkaaDoorW.PrintWords Go.Proofs.YtgklipfeheohkaaDoorW.PrintLast
set_option linter.unusedVariables false
set_option linter.unusedSimpArgs false
theorem digits_cons (n : Nat) : ∀ v : Int, digits v (n + 1) = (v / 256 ^ n % 256) :: digits v n := by
  induction n with
  | zero => intro v; simp [digits]
  | succ n ih =>
    intro v
    rw [digits, ih (v / 256), List.cons_append, Int.ediv_ediv_of_nonneg (by decide)]
    have e : (256 : Int) * 256 ^ n = 256 ^ (n + 1) := by rw [Int.pow_succ, Int.mul_comm]
    rw [e]
    rfl
theorem u64_range (x : Int) : 0 ≤ IntKind.u64.wrap x ∧ IntKind.u64.wrap x < 18446744073709551616 := by
  simp [IntKind.wrap, IntKind.bits, IntKind.signed]
  omega
theorem shr_is (v : Int) (j : Nat) (hj : j < 8) (h0 : 0 ≤ v) (h1 : v < 18446744073709551616) : shr .u64 v (wrap64 (8 * (j : Int))) % 256 = v / 256 ^ j % 256 := by
  rw [w64_small (by omega) (by omega)]
  have hh : j = 0 ∨ j = 1 ∨ j = 2 ∨ j = 3 ∨ j = 4 ∨ j = 5 ∨ j = 6 ∨ j = 7 := by omega
  rcases hh with h | h | h | h | h | h | h | h <;> subst h <;> simp [shr, IntKind.wrap, IntKind.bits, IntKind.signed] <;> omega
theorem refPut_loop (x : Int) (d : Nat) : ∀ (k : Nat) (acc : List Int) (j : Int), j + 1 = d → d ≤ 8 → d < k → acc.length + d ≤ 140737488355328 →
    cambiumref01_Put.l0 k x acc j = some (acc ++ digits (IntKind.u64.wrap x) d) := by
  induction d with
  | zero =>
    intro k acc j hj hd hk hl
    obtain ⟨k, rfl⟩ : ∃ m, k = m + 1 := ⟨k - 1, by omega⟩
    simp only [cambiumref01_Put.l0]
    rw [if_neg (by omega)]
    simp [digits]
  | succ d ih =>
    intro k acc j hj hd hk hl
    obtain ⟨k, rfl⟩ : ∃ m, k = m + 1 := ⟨k - 1, by omega⟩
    obtain rfl : j = (d : Int) := by omega
    simp only [cambiumref01_Put.l0]
    have hu := u64_range x
    rw [if_pos (by omega), if_pos (by rw [w64_small (by omega) (by omega)]; omega), if_pos (by omega), shr_is _ d (by omega) hu.1 hu.2, w64_small (by omega) (by omega)]
    rw [ih k _ _ (by omega) (by omega) (by omega) (by rw [List.length_append, List.length_singleton]; omega), digits_cons]
    simp
theorem refPut_k (k : Nat) (hk : 10 ≤ k) (l : List Int) (x n : Int) (hl : l.length ≤ 140737488355320) : cambiumref01_Put.f k l x n = some (putR l x n) := by
  obtain ⟨k, rfl⟩ : ∃ m, k = m + 1 := ⟨k - 1, by omega⟩
  unfold cambiumref01_Put.f putR
  simp only [Option.bind_some, List.nil_append, List.length_nil]
  rw [if_pos (by omega)]
  by_cases h1 : n < 1
  · rw [if_pos h1, if_pos (Or.inl h1)]; simp [cambiumref01_Put.j0]
  rw [if_neg h1]
  by_cases h2 : n > 8
  · rw [if_pos (Or.inr h2)]; simp [cambiumref01_Put.j0, h2]
  rw [if_neg (by omega)]
  have : decide (n > 8) = false := by simpa using h2
  rw [this]
  simp only [cambiumref01_Put.j0]
  rw [if_neg (by decide), w64_small (by omega) (by omega)]
  exact refPut_loop x n.toNat k l (n - 1) (by omega) (by omega) (by omega) (by omega)
end Go.Proofs.YtgklipfeheohkaaDoor.NumLem
end

section
namespace Go.Proofs.YtgklipfeheohkaaDoor.NumLem
open Go.RowKit Go.Proofs.YtgklipfeheohkaaDoor.P Go.Proofs.YtgklipfeheohkaaDoorW.PrintWords Go.Proofs.YtgklipfeheohkaaDoorW.PrintLast
set_option linter.unusedVariables false
set_option linter.unusedSimpArgs false
theorem rd_at (l : List Int) (i : Nat) (h : i < l.length) : rd l (i : Int) = l[i] := by
  unfold rd
  rw [Int.toNat_natCast, List.getD_eq_getElem?_getD, List.getElem?_eq_getElem h]
  rfl
theorem take_snoc (l : List Int) (i : Nat) (h : i < l.length) : val (l.take (i + 1)) = 256 * val (l.take i) + l[i] := by
  rw [List.take_succ_eq_append_getElem h, val_snoc]
theorem refTake_loop (l : List Int) (n : Nat) (hb : Bytes l) (hn : n ≤ 7) (hl : n ≤ l.length) (hs : l.length < 140737488355328) (d : Nat) : ∀ (k i : Nat), i + d = n → d < k →
    cambiumref01_Take.l0 k l n (val (l.take i)) i = some (val (l.take n), l.drop n, 0) := by
  induction d with
  | zero =>
    intro k i hi hk
    obtain ⟨k, rfl⟩ : ∃ m, k = m + 1 := ⟨k - 1, by omega⟩
    obtain rfl : i = n := by omega
    simp only [cambiumref01_Take.l0]
    rw [if_neg (by omega), Option.bind_some, if_pos (by omega), if_pos (by omega), if_pos (by simp only [List.length_nil, List.length_drop]; omega)]
    simp
  | succ d ih =>
    intro k i hi hk
    obtain ⟨k, rfl⟩ : ∃ m, k = m + 1 := ⟨k - 1, by omega⟩
    have hil : i < l.length := by omega
    simp only [cambiumref01_Take.l0]
    rw [if_pos (by omega), if_pos (by omega), if_pos (by omega), rd_at l i hil]
    have hv := val_range (l.take i) (hb.take i)
    have hc := hb l[i] (List.getElem_mem hil)
    have hp : val (l.take i) < 256 ^ 6 := Int.lt_of_lt_of_le hv.2 (pow256 (show (l.take i).length ≤ 6 by rw [List.length_take]; omega))
    have hp' : val (l.take i) < 281474976710656 := hp
    rw [w64_small (x := 256 * val (l.take i)) (by omega) (by omega), w64_small (x := l[i]) (by omega) (by omega), w64_small (by omega) (by omega), ← take_snoc l i hil, w64_small (by omega) (by omega)]
    exact ih k (i + 1) (by omega) (by omega)
theorem refTake_k (k : Nat) (hk : 10 ≤ k) (l : List Int) (n : Int) (hb : Bytes l) (hs : l.length < 140737488355328) : cambiumref01_Take.f k l n = some (takeR l n) := by
  obtain ⟨k, rfl⟩ : ∃ m, k = m + 1 := ⟨k - 1, by omega⟩
  unfold cambiumref01_Take.f takeR
  by_cases h1 : n < 1
  · rw [if_pos h1, if_pos (Or.inl h1)]; simp only [cambiumref01_Take.j0, if_true]
  rw [if_neg h1]
  by_cases h2 : n > 7
  · rw [if_pos (Or.inr h2)]; simp [cambiumref01_Take.j0, h2]
  rw [if_neg (by omega)]
  have : decide (n > 7) = false := by simpa using h2
  rw [this]
  simp only [cambiumref01_Take.j0]
  rw [if_neg (by decide)]
  by_cases h3 : (l.length : Int) < n
  · rw [if_pos h3, if_pos h3]
  rw [if_neg h3, if_neg h3]
  obtain ⟨m, rfl⟩ : ∃ m : Nat, n = m := ⟨n.toNat, by omega⟩
  exact refTake_loop l m hb (by omega) (by omega) hs m k 0 (by omega) (by omega)
end Go.Proofs.YtgklipfeheohkaaDoor.NumLem
end

section
namespace Go.Proofs.YtgklipfeheohkaaDoor.NumLem
open Go.RowKit Go.Proofs.YtgklipfeheohkaaDoor.P Go.Proofs.YtgklipfeheohkaaDoorW.PrintWords Go.Proofs.YtgklipfeheohkaaDoorW.PrintLast
set_option linter.unusedVariables false
set_option linter.unusedSimpArgs false
theorem refput_is (k : Nat) (hk : 10 ≤ k) (l x : List Int) (n most : Int) (h : l.length + x.length ≤ 140737488355310) : cambiumref01_put.f k l x n most = some (putRowR l x n most) := by
  unfold cambiumref01_put.f putRowR
  by_cases h1 : (x.length : Int) > most
  · rw [if_pos h1, if_pos h1]
  have h2 := putR_len l x.length n
  rw [if_neg h1, if_neg h1, refPut_k k hk _ _ _ (by omega), Option.bind_some, if_pos (by omega)]
theorem refPutText_is (k : Nat) (hk : 10 ≤ k) (l : List Int) (s : ByteArray) (h : l.length + s.size ≤ 140737488355310) : cambiumref01_PutText.f k l s = some (putRowR l (bytesOf s) 1 255) := by
  unfold cambiumref01_PutText.f
  rw [if_pos (by omega), refput_is k hk _ _ _ _ (by rw [bytesOf_length]; exact h)]
theorem reftake_is (k : Nat) (hk : 10 ≤ k) (l : List Int) (n : Int) (h : Bytes l) (hl : l.length < 140737488355328) : cambiumref01_take.f k l n = some (takeRowR l n) := by
  unfold cambiumref01_take.f takeRowR
  rw [refTake_k k hk l n h hl]
  have h0 := takeR_val l n h
  have h1 := takeR_len l n
  simp only [Option.bind_some, List.nil_append, List.length_nil]
  by_cases he : (takeR l n).2.2 = 0
  · rw [if_pos he]
    by_cases hs : ((takeR l n).2.1.length : Int) < (takeR l n).1
    · rw [if_pos hs, if_pos (Or.inr hs)]
    · have hno : ¬ ((takeR l n).2.2 ≠ 0 ∨ ((takeR l n).2.1.length : Int) < (takeR l n).1) := fun h => h.elim (fun h => h he) hs
      rw [if_neg hs, if_neg hno, if_pos h0, if_pos (by omega), if_pos (by simp only [List.length_take]; omega), if_pos (by simp only [List.length_drop]; omega)]
  · rw [if_neg he, if_pos (Or.inl he)]
theorem refTakeText_is (k : Nat) (hk : 10 ≤ k) (l : List Int) (h : Bytes l) (hl : l.length < 140737488355328) : cambiumref01_TakeText.f k l = some (strOfNums (takeRowR l 1).1, (takeRowR l 1).2.1, (takeRowR l 1).2.2) := by
  unfold cambiumref01_TakeText.f
  rw [reftake_is k hk _ _ h hl]
  rfl
end Go.Proofs.YtgklipfeheohkaaDoor.NumLem
end

section
namespace Go.Proofs.YtgklipfeheohkaaDoor.NumLem
open Go.RowKit Go.Proofs.YtgklipfeheohkaaDoor.P Go.Proofs.YtgklipfeheohkaaDoorW.PrintWords Go.Proofs.YtgklipfeheohkaaDoorW.PrintLast
set_option linter.unusedVariables false
set_option linter.unusedSimpArgs false
theorem refPutBytes_is (k : Nat) (hk : 10 ≤ k) (l x : List Int) (h : l.length + x.length ≤ 140737488355310) : cambiumref01_PutBytes.f k l x = some (putRowR l x 2 65535) := by
  unfold cambiumref01_PutBytes.f
  rw [refput_is k hk _ _ _ _ h]
  rfl
theorem refTakeBytes_is (k : Nat) (hk : 10 ≤ k) (l : List Int) (h : Bytes l) (hl : l.length < 140737488355328) : cambiumref01_TakeBytes.f k l = some (takeRowR l 2) := by
  unfold cambiumref01_TakeBytes.f
  rw [reftake_is k hk _ _ h hl]
  rfl
end Go.Proofs.YtgklipfeheohkaaDoor.NumLem
end

section
namespace Go.Proofs.YtgklipfeheohkaaDoor.SumLem
open Go.RowKit Go.Proofs.YtgklipfeheohkaaDoor.P Go.Proofs.YtgklipfeheohkaaDoorW.PrintWords Go.Proofs.YtgklipfeheohkaaDoorW.PrintLast
set_option linter.unusedVariables false
set_option linter.unusedSimpArgs false
/-- The eight steps of the reference, from step j on. -/
theorem ref_l1 (l : List Int) (i : Int) (d : Nat) : ∀ (k : Nat) (v : BitVec 32) (j : Int), 0 ≤ j → j ≤ 8 → 8 - j = d → d < k →
    cambiumref02_More.l1 k l (Crc.num v) i j = cambiumref02_More.l0 (k - d - 1) l (Crc.num (Crc.bstpN d v)) (wrap64 (i + 1)) := by
  induction d with
  | zero =>
    intro k v j h0 h1 hd hk
    obtain ⟨k, rfl⟩ : ∃ m, k = m + 1 := ⟨k - 1, by omega⟩
    simp only [cambiumref02_More.l1]
    rw [if_neg (by omega)]
    rfl
  | succ d ih =>
    intro k v j h0 h1 hd hk
    obtain ⟨k, rfl⟩ : ∃ m, k = m + 1 := ⟨k - 1, by omega⟩
    have hw : wrap64 (j + 1) = j + 1 := by unfold wrap64; omega
    have hs : ∀ X : Int → Option Int, (if Int.tmod (Crc.num v) 2 = 1 then X (Go.bits .xor .u32 ((Int.tdiv (Crc.num v) 2) % 4294967296) 2197175160) else X ((Int.tdiv (Crc.num v) 2) % 4294967296)) = X (Crc.num (Crc.bstp v)) := by
      intro X
      rw [← Crc.refStp_num]
      unfold Crc.refStp
      split <;> rfl
    simp only [cambiumref02_More.l1]
    rw [if_pos (by omega), hs (fun x => cambiumref02_More.l1 k l x i (wrap64 (j + 1))), hw, ih k (Crc.bstp v) (j + 1) (by omega) (by omega) (by omega) (by omega), Crc.bstpN_succ, show k + 1 - (d + 1) - 1 = k - d - 1 from by omega]
theorem ref_l0 (l : List Int) (hl : l.length ≤ 9223372036854775806) (d : Nat) : ∀ (k : Nat) (v : BitVec 32) (i : Nat), i ≤ l.length → l.length - i = d → 10 * d < k →
    cambiumref02_More.l0 k l (Crc.num v) i = some (Crc.num (Crc.bfold v (bv (l.drop i)) ^^^ Crc.ones)) := by
  induction d with
  | zero =>
    intro k v i h1 hd hk
    obtain ⟨k, rfl⟩ : ∃ m, k = m + 1 := ⟨k - 1, by omega⟩
    obtain rfl : i = l.length := by omega
    simp only [cambiumref02_More.l0]
    rw [if_neg (by omega), List.drop_length, ← Crc.num_ones, Crc.num_xor]
    rfl
  | succ d ih =>
    intro k v i h1 hd hk
    obtain ⟨k, rfl⟩ : ∃ m, k = m + 1 := ⟨k - 1, by omega⟩
    have hw : wrap64 ((i : Int) + 1) = ((i + 1 : Nat) : Int) := by unfold wrap64; omega
    have hr : rd l (i : Int) = l[i]'(by omega) := by
      unfold rd
      rw [Int.toNat_natCast, List.getD_eq_getElem?_getD, List.getElem?_eq_getElem (by omega)]
      rfl
    simp only [cambiumref02_More.l0]
    rw [if_pos (by omega), if_pos (by omega), Crc.xor32, Crc.of_num]
    show cambiumref02_More.l1 k l (Crc.num _) i 0 = _
    rw [ref_l1 l i 8 k _ 0 (by omega) (by omega) (by omega) (by omega), hw, ih _ _ (i + 1) (by omega) (by omega) (by omega), List.drop_eq_getElem_cons (show i < l.length by omega)]
    have hb : Crc.bstpN 8 (v ^^^ BitVec.ofInt 32 (rd l (i : Int) % 4294967296)) = Crc.bbyte v (BitVec.ofInt 32 (l[i]'(by omega))) := by
      unfold Crc.bbyte
      congr 2
      rw [hr]
      apply BitVec.eq_of_toNat_eq
      rw [BitVec.toNat_ofInt, BitVec.toNat_ofInt]
      congr 1
      omega
    rw [hb]
    rfl
theorem ref_more_is (a : Int) (l : List Int) (h0 : 0 ≤ a) (h1 : a < 4294967296) (hl : l.length ≤ 9223372036854775806) (k : Nat) (hk : 10 * l.length < k) :
    cambiumref02_More.f k a l = some (Crc.num (Crc.crc (BitVec.ofInt 32 a) (bv l))) := by
  unfold cambiumref02_More.f
  have e : a = Crc.num (BitVec.ofInt 32 a) := (Crc.num_of a h0 h1).symm
  rw [e, ← Crc.num_ones, Crc.num_xor, ← e]
  have := ref_l0 l hl l.length k (BitVec.ofInt 32 a ^^^ Crc.ones) 0 (by omega) (by omega) hk
  simpa [Crc.crc] using this
end Go.Proofs.YtgklipfeheohkaaDoor.SumLem
end

section
namespace Go.Proofs.YtgklipfeheohkaaDoor.P
open Go.RowKit Go.Proofs.YtgklipfeheohkaaDoorW.PrintWords Go.Proofs.YtgklipfeheohkaaDoorW.PrintLast Go.Proofs.YtgklipfeheohkaaDoorW.PrintMore Go.Proofs.YtgklipfeheohkaaDoor.NumLem
open Go.Proofs.YtgklipfeheohkaaDoor.SumLem (bv sum_is ref_more_is)
set_option linter.unusedVariables false
theorem refGood_is (k : Nat) (hk : 2010 ≤ k) (r : S37) : cambiumref19_Good.f k r.f0 r.f1 r.f2 r.f3 r.f4 = some (goodR r) := by
  obtain ⟨q, rfl⟩ : ∃ q, k = q + 4 := ⟨k - 4, by omega⟩
  obtain ⟨a, b, c, d, l⟩ := r
  simp only [cambiumref19_Good.f, cambiumref19_Good.j0, cambiumref19_Good.j1, cambiumref19_Good.j2, cambiumref19_Good.j3, refCut_is _ _ (show 2000 ≤ q + 4 by omega), refCut_is _ _ (show 2000 ≤ q + 3 by omega), Option.bind_some, goodR, okP]
  obtain ⟨pb, hpb⟩ : ∃ p, (cutR b).2 = p := ⟨_, rfl⟩
  obtain ⟨pc, hpc⟩ : ∃ p, (cutR c).2 = p := ⟨_, rfl⟩
  rw [hpb, hpc]
  clear hpb hpc
  generalize l.length = n
  by_cases e : c.toList = []
  all_goals
    by_cases hb : pb = 0 <;> by_cases hc : pc = 0 <;> simp only [e, hb, hc, if_true, if_false]
    all_goals
      by_cases h1 : a < 1
      · simp [h1, show ¬ (1 ≤ a ∧ a ≤ 7) by omega]
      · by_cases h7 : a > 7
        · simp [h1, h7, show ¬ (1 ≤ a ∧ a ≤ 7) by omega]
        · by_cases h3 : a = 3
          · subst h3
            simp
            all_goals ((repeat' split) <;> first | (exfalso; omega) | (simp only [Option.some.injEq]; rw [Bool.eq_iff_iff]; simp; omega) | (simp; omega) | (intros; first | omega | contradiction | simp_all))
          · by_cases h4 : a = 4
            · subst h4
              simp
              all_goals ((repeat' split) <;> first | (exfalso; omega) | (simp only [Option.some.injEq]; rw [Bool.eq_iff_iff]; simp; omega) | (simp; omega) | (intros; first | omega | contradiction | simp_all))
            · by_cases h5 : a = 5
              · subst h5
                simp
                all_goals ((repeat' split) <;> first | (exfalso; omega) | (simp only [Option.some.injEq]; rw [Bool.eq_iff_iff]; simp; omega) | (simp; omega) | (intros; first | omega | contradiction | simp_all))
              · simp [h1, h7, h3, h4, h5, show (1 ≤ a ∧ a ≤ 7) by omega]
                all_goals ((repeat' split) <;> first | (exfalso; omega) | (simp only [Option.some.injEq]; rw [Bool.eq_iff_iff]; simp; omega) | (simp; omega) | (intros; first | omega | contradiction | simp_all))
theorem refPutText_small (k : Nat) (hk : 10 ≤ k) (l : List Int) (s : ByteArray) (hs : s.size ≤ 255) (hl : l.length ≤ 1000000) : cambiumref01_PutText.f k l s = some (l ++ (digits (s.size : Int) 1 ++ bytesOf s), 0) := by
  rw [refPutText_is k hk l s (by omega)]
  unfold putRowR
  have e : putR l (s.size : Int) 1 = l ++ digits (s.size : Int) 1 := putR_digits l s.size 1 (by decide) (by decide) (by omega)
  rw [bytesOf_length, if_neg (by omega), e, List.append_assoc]
theorem refPutBytes_small (k : Nat) (hk : 10 ≤ k) (l x : List Int) (hs : x.length ≤ 65535) (hl : l.length ≤ 1000000) : cambiumref01_PutBytes.f k l x = some (l ++ (digits (x.length : Int) 2 ++ x), 0) := by
  rw [refPutBytes_is k hk l x (by omega)]
  unfold putRowR
  have e : putR l (x.length : Int) 2 = l ++ digits (x.length : Int) 2 := putR_digits l x.length 2 (by decide) (by decide) (by omega)
  rw [if_neg (by omega), e, List.append_assoc]
theorem refPut_small (k : Nat) (hk : 10 ≤ k) (l : List Int) (v : Int) (h0 : 0 ≤ v) (h1 : v ≤ 8192) (hl : l.length ≤ 1000000) : cambiumref01_Put.f k l v 4 = some (l ++ digits v 4) := by
  rw [refPut_k k hk l v 4 (by omega)]
  obtain ⟨m, rfl⟩ := Int.eq_ofNat_of_zero_le h0
  have e : putR l (m : Int) 4 = l ++ digits (m : Int) 4 := putR_digits l m 4 (by decide) (by decide) (by omega)
  rw [e]
theorem refPut_one (k : Nat) (hk : 10 ≤ k) (l : List Int) (v : Int) (h0 : 0 ≤ v) (h1 : v ≤ 7) (hl : l.length ≤ 1000000) : cambiumref01_Put.f k l v 1 = some (l ++ [v % 256]) := by
  rw [refPut_k k hk l v 1 (by omega)]
  obtain ⟨m, rfl⟩ := Int.eq_ofNat_of_zero_le h0
  have e : putR l (m : Int) 1 = l ++ digits (m : Int) 1 := putR_digits l m 1 (by decide) (by decide) (by omega)
  rw [e]
  rfl
theorem refSum_is (k : Nat) (b : List Int) (hb : 10 * b.length < k) (hb2 : b.length ≤ 1000000) : cambiumref02_Sum.f k b = some (crcB b) := by
  unfold cambiumref02_Sum.f
  rw [ref_more_is 0 b (by decide) (by decide) (by omega) k hb]
  rfl
/-- The bytes of a stream's records, up to one that may not be, stay small. -/
def Fits : Nat → List S37 → Prop
  | n, [] => n ≤ 100000
  | n, r :: l => n ≤ 100000 ∧ (goodR r = true → Fits (n + (recB r).length) l)
theorem fits_few : ∀ (l : List S37) (n : Nat), n + 403 * l.length ≤ 100000 → Fits n l
  | [], n, h => by
    rw [List.length_nil] at h
    exact h
  | r :: l, n, h => by
    rw [List.length_cons] at h
    refine ⟨by omega, fun hg => fits_few l _ ?_⟩
    have := recB_len ((goodR_is r).1 hg)
    omega
theorem refput_l0 (l : List S37) (hl : l.length ≤ 100000) : ∀ (n j k : Nat) (acc : List Int), l.length - j ≤ n → j ≤ l.length → 4 * n + 2000000 < k → Fits acc.length (l.drop j) → cambiumref19_Put.l0 k l acc (j : Int) = some (putFrom acc (l.drop j))
  | _, _, 0, _, _, _, h, _ => absurd h (Nat.not_lt_zero _)
  | n, j, k + 1, acc, hn, hj, hk, ha => by
    unfold cambiumref19_Put.l0
    by_cases hlt : j < l.length
    · obtain ⟨m, rfl⟩ : ∃ m, n = m + 1 := ⟨n - 1, by omega⟩
      obtain ⟨q, rfl⟩ : ∃ q, k = q + 2 := ⟨k - 2, by omega⟩
      rw [if_pos (Int.ofNat_lt.2 hlt), if_pos (Int.natCast_nonneg j), rd37_at l j hlt, refGood_is (q + 2) (by omega), Option.bind_some]
      rw [List.drop_eq_getElem_cons hlt] at ha ⊢
      obtain ⟨r, hr⟩ : ∃ r, l[j] = r := ⟨_, rfl⟩
      rw [hr] at ha ⊢
      obtain ⟨ha, hF⟩ := ha
      cases hg : goodR r with
      | false => rw [if_neg (by decide), putFrom_bad _ _ _ hg]
      | true =>
        have G := (goodR_is r).1 hg
        have h1 := okP_le G.path
        have hk0 := G.kind
        have hlen := recB_len G
        have ih := refput_l0 l hl m (j + 1) q (acc ++ recB r) (by omega) hlt (by omega) (by rw [List.length_append]; exact hF hg)
        rw [putFrom_good _ _ _ hg] at ih
        rw [if_pos rfl, refPut_one (q + 2) (by omega) _ _ (by omega) (by omega) (by omega), Option.bind_some, refPutText_small (q + 2) (by omega) _ _ (by omega) (by rw [List.length_append, List.length_singleton]; omega), Option.bind_some]
        by_cases h3 : r.f0 = 3
        · have h2 := okP_le (G.from3 h3)
          have e : acc ++ [r.f0 % 256] ++ (digits (r.f1.size : Int) 1 ++ bytesOf r.f1) ++ (digits (r.f2.size : Int) 1 ++ bytesOf r.f2) = acc ++ recB r := by unfold recB; rw [if_pos h3]; simp only [List.append_assoc]
          rw [if_pos h3, refPutText_small (q + 2) (by omega) _ _ (by omega) (by simp only [List.length_append, digits_length, bytesOf_length, List.length_singleton]; omega), Option.bind_some, e]
          simp only [cambiumref19_Put.j2, cambiumref19_Put.j3, wr_ j (by omega)]
          rw [if_neg (show ¬ r.f0 = 4 by omega), if_neg (show ¬ r.f0 = 4 by omega), if_neg (by simp; omega)]
          exact ih
        · rw [if_neg h3]
          simp only [cambiumref19_Put.j2, cambiumref19_Put.j3, wr_ j (by omega)]
          by_cases h5 : r.f0 = 5
          · have h2 := G.off (Or.inr h5)
            have e : acc ++ [r.f0 % 256] ++ (digits (r.f1.size : Int) 1 ++ bytesOf r.f1) ++ digits r.f3 4 = acc ++ recB r := by unfold recB; rw [if_neg h3, if_pos h5]; simp only [List.append_assoc]
            rw [if_neg (show ¬ r.f0 = 4 by omega), if_pos (by simp [h5]), refPut_small q (by omega) _ _ h2.1 h2.2 (by simp only [List.length_append, digits_length, bytesOf_length, List.length_singleton]; omega), Option.bind_some, if_neg (show ¬ r.f0 = 4 by omega), e]
            exact ih
          · by_cases h4 : r.f0 = 4
            · have h2 := G.off (Or.inl h4)
              have h6 := G.data h4
              have e : acc ++ [r.f0 % 256] ++ (digits (r.f1.size : Int) 1 ++ bytesOf r.f1) ++ digits r.f3 4 ++ (digits (r.f4.length : Int) 2 ++ r.f4) = acc ++ recB r := by unfold recB; rw [if_neg h3, if_neg h5, if_pos h4]; simp only [List.append_assoc]
              rw [if_pos h4, if_pos trivial, refPut_small q (by omega) _ _ h2.1 h2.2 (by simp only [List.length_append, digits_length, bytesOf_length, List.length_singleton]; omega), Option.bind_some, if_pos h4, refPutBytes_small q (by omega) _ _ (by omega) (by simp only [List.length_append, digits_length, bytesOf_length, List.length_singleton]; omega), Option.bind_some, e]
              exact ih
            · have e : acc ++ [r.f0 % 256] ++ (digits (r.f1.size : Int) 1 ++ bytesOf r.f1) = acc ++ recB r := by unfold recB; rw [if_neg h3, if_neg h5, if_neg h4, List.append_nil]; simp only [List.append_assoc]
              rw [if_neg h4, if_neg (by simp [h5]), if_neg h4, e]
              exact ih
    · have hd : l.drop j = [] := List.drop_eq_nil_of_le (by omega)
      have hal : acc.length ≤ 101000 := by
        rw [hd] at ha
        have : acc.length ≤ 100000 := ha
        omega
      rw [if_neg (by omega), if_pos (by omega), Option.bind_some, refSum_is k _ (by rw [List.length_append, List.length_singleton]; omega) (by rw [List.length_append, List.length_singleton]; omega), Option.bind_some, show cambiumref19_low.f (crcB (acc ++ [8])) = some (lowB (crcB (acc ++ [8]))) from rfl, Option.bind_some, if_pos (by rw [List.length_append, lowB_len, List.length_singleton]; omega), Option.bind_some, hd]
      unfold putFrom finS sealS
      simp only [List.all_nil, if_true, flatB, List.map_nil, List.flatten_nil, List.append_nil]
      split <;> rfl
theorem refput_fit (l : List S37) (base : Bool) (hl : l.length ≤ 100000) (hF : Fits 3 l) (k : Nat) (hk : 2400010 ≤ k) : cambiumref19_Put.f k l base = some (putS l base) := by
  obtain ⟨q, rfl⟩ : ∃ q, k = q + 1 := ⟨k - 1, by omega⟩
  have h := fun acc (ha : acc.length = 3) => refput_l0 l hl l.length 0 q acc (by omega) (Nat.zero_le _) (by omega) (by rw [ha]; exact hF)
  unfold cambiumref19_Put.f
  simp only [Option.bind_some]
  cases base with
  | true =>
    rw [if_pos rfl, if_pos (by decide)]
    exact h [67, 66, 1] rfl
  | false =>
    rw [if_neg (by decide)]
    exact h [67, 66, 0] rfl
theorem refput_is (l : List S37) (base : Bool) (hl : l.length ≤ 100) (k : Nat) (hk : 2401000 ≤ k) : cambiumref19_Put.f k l base = some (putS l base) := refput_fit l base (by omega) (fits_few l 3 (by omega)) k (by omega)
end Go.Proofs.YtgklipfeheohkaaDoor.P
end

section
namespace Go.Proofs.YtgklipfeheohkaaDoor.P
open Go.RowKit Go.Proofs.YtgklipfeheohkaaDoorW.PrintWords Go.Proofs.YtgklipfeheohkaaDoorW.PrintLast Go.Proofs.YtgklipfeheohkaaDoorW.PrintMore Go.Proofs.YtgklipfeheohkaaDoor.NumLem
set_option linter.unusedVariables false
set_option linter.unusedSimpArgs false
theorem strOf_bytes (s : ByteArray) : strOfNums (bytesOf s) = s := by
  obtain ⟨⟨l⟩⟩ := s
  unfold strOfNums bytesOf
  simp only [List.map_map]
  have : ((fun n : Int => UInt8.ofNat n.toNat) ∘ fun b : UInt8 => (b.toNat : Int)) = id := by
    funext b
    simp
  rw [this]
  simp
theorem bytes_of (l : List Int) (h : Bytes l) : bytesOf (strOfNums l) = l := by
  unfold strOfNums bytesOf
  rw [List.map_map]
  conv => rhs; rw [← List.map_id l]
  apply List.map_congr_left
  intro x hx
  have := h x hx
  simp
  omega
/-- What was laid down, out of what is read. -/
theorem digits_val (l : List Int) (h : Bytes l) : digits (val l) l.length = l := by
  induction l using snoc_ind with
  | h0 => rfl
  | h1 l c ih =>
    have hc := h c (by simp)
    have hl : Bytes l := fun x hx => h x (by simp [hx])
    rw [val_snoc, List.length_append, List.length_singleton, digits, show (256 * val l + c) / 256 = val l by omega, show (256 * val l + c) % 256 = c by omega, ih hl]
theorem takeR_form (l : List Int) (n : Nat) (h1 : 1 ≤ n) (h2 : n ≤ 7) (hb : Bytes l) (h : (takeR l n).2.2 = 0) : l = digits (takeR l n).1 n ++ (takeR l n).2.1 ∧ 0 ≤ (takeR l n).1 ∧ (takeR l n).1 < 256 ^ n := by
  unfold takeR at *
  rw [if_neg (by omega)] at h ⊢
  by_cases hl : (l.length : Int) < n
  · rw [if_pos hl] at h
    exact absurd h (by decide)
  · rw [if_neg hl, Int.toNat_natCast]
    have ht : (l.take n).length = n := by rw [List.length_take]; omega
    have hr := val_range (l.take n) (hb.take n)
    rw [ht] at hr
    refine ⟨?_, hr.1, hr.2⟩
    show l = digits (val (l.take n)) n ++ l.drop n
    have hd := digits_val (l.take n) (hb.take n)
    rw [ht] at hd
    rw [hd, List.take_append_drop]
theorem takeRowR_form (l : List Int) (n : Nat) (h1 : 1 ≤ n) (h2 : n ≤ 7) (hb : Bytes l) (h : (takeRowR l n).2.2 = 0) : l = digits ((takeRowR l n).1.length : Int) n ++ ((takeRowR l n).1 ++ (takeRowR l n).2.1) ∧ ((takeRowR l n).1.length : Int) < 256 ^ n ∧ Bytes (takeRowR l n).1 ∧ Bytes (takeRowR l n).2.1 := by
  unfold takeRowR at *
  by_cases hc : (takeR l n).2.2 ≠ 0 ∨ ((takeR l n).2.1.length : Int) < (takeR l n).1
  · rw [if_pos hc] at h
    exact absurd h (by decide)
  · rw [if_neg hc]
    have he : (takeR l n).2.2 = 0 := by omega
    obtain ⟨hf, h0, hm⟩ := takeR_form l n h1 h2 hb he
    obtain ⟨v, hv⟩ := Int.eq_ofNat_of_zero_le h0
    rw [hv] at hc hf hm ⊢
    rw [Int.toNat_natCast]
    have hlen : ((takeR l n).2.1.take v).length = v := by rw [List.length_take]; omega
    have hbt : Bytes (takeR l n).2.1 := by
      have := hb
      rw [hf] at this
      exact fun x hx => this x (List.mem_append_right _ hx)
    rw [hlen]
    exact ⟨by rw [List.take_append_drop]; exact hf, hm, hbt.take v, hbt.drop v⟩
theorem TakeText_small (l : List Int) (hb : Bytes l) (hl : l.length ≤ 1000000) : num_TakeText.f l = some (strOfNums (takeRowR l 1).1, (takeRowR l 1).2.1, (takeRowR l 1).2.2) := TakeText_is l hb (by omega)
theorem TakeText_back (s : ByteArray) (r : List Int) (hs : s.size ≤ 255) (hr : Bytes r) (hl : r.length ≤ 900000) : num_TakeText.f (digits (s.size : Int) 1 ++ bytesOf s ++ r) = some (s, r, 0) := by
  have hb : Bytes (digits (s.size : Int) 1 ++ bytesOf s ++ r) := ((digits_bytes _ _).append (bytesOf_bytes s)).append hr
  have h := take_back (bytesOf s) r 1 (by decide) (by decide) (by rw [bytesOf_length]; omega)
  rw [bytesOf_length] at h
  have e : takeRowR (digits (s.size : Int) 1 ++ bytesOf s ++ r) 1 = (bytesOf s, r, 0) := by rw [List.append_assoc]; exact h
  rw [TakeText_small _ hb (by simp only [List.length_append, digits_length, bytesOf_length]; omega), e]
  show some (strOfNums (bytesOf s), r, (0 : Int)) = _
  rw [strOf_bytes]
theorem TakeBytes_back (x r : List Int) (hx : Bytes x) (hs : x.length ≤ 65535) (hr : Bytes r) (hl : r.length ≤ 800000) : num_TakeBytes.f (digits (x.length : Int) 2 ++ x ++ r) = some (x, r, 0) := by
  have hb : Bytes (digits (x.length : Int) 2 ++ x ++ r) := ((digits_bytes _ _).append hx).append hr
  have h := take_back x r 2 (by decide) (by decide) (by omega)
  have e : takeRowR (digits (x.length : Int) 2 ++ x ++ r) 2 = (x, r, 0) := by rw [List.append_assoc]; exact h
  rw [TakeBytes_is _ hb (by simp only [List.length_append, digits_length]; omega), e]
theorem Take4_back (v : Int) (r : List Int) (h0 : 0 ≤ v) (h1 : v ≤ 8192) (hr : Bytes r) (hl : r.length ≤ 900000) : num_Take.f (digits v 4 ++ r) 4 = some (v, r, 0) := by
  obtain ⟨m, rfl⟩ := Int.eq_ofNat_of_zero_le h0
  rw [Take_is _ 4 ((digits_bytes _ _).append hr) (by simp only [List.length_append, digits_length]; omega)]
  exact congrArg some (takeR_digits m 4 r (by decide) (by decide) (by omega))
theorem recB_bytes {r : S37} (hb : Bytes r.f4) : Bytes (recB r) := by
  unfold recB
  refine Bytes.append (Bytes.append ?_ ((digits_bytes _ _).append (bytesOf_bytes _))) ?_
  · intro x hx
    obtain rfl := List.mem_singleton.1 hx
    omega
  · split
    · exact (digits_bytes _ _).append (bytesOf_bytes _)
    · split
      · exact digits_bytes _ _
      · split
        · exact (digits_bytes _ _).append ((digits_bytes _ _).append hb)
        · exact Bytes.nil
/-- A record that was laid down is taken as it was. -/
theorem rec_back (k : Nat) (hk : 3 ≤ k) (r : S37) (G : Good r) (hb : Bytes r.f4) (rest : List Int) (hr : Bytes rest) (hl : rest.length ≤ 100000) :
    stream_record.f k (recB r ++ rest) = some (r.f0, r.f1, r.f2, r.f3, r.f4, rest, true) := by
  obtain ⟨q, rfl⟩ : ∃ q, k = q + 1 := ⟨k - 1, by omega⟩
  have h1 := okP_le G.path
  have hk0 := G.kind
  have hg : ∀ (a : Int) (b c : ByteArray) (d : Int) (l : List Int), (⟨a, b, c, d, l⟩ : S37) = r → stream_Good.f q a b c d l = some true := by
    rintro a b c d l rfl
    rw [good_is q (by omega) ⟨a, b, c, d, l⟩, (goodR_is _).2 G]
  obtain ⟨a, b, c, d, l⟩ := r
  have hg' := hg a b c d l rfl
  simp only at h1 hk0 hb
  have e0 : ∀ X : List Int, rd ([a % 256] ++ X) 0 = a := fun X => by
    show a % 256 = a
    omega
  have ew : wrap64 a = a := by unfold wrap64; omega
  have hd1 : ∀ X : List Int, ([a % 256] ++ X).drop 1 = X := fun X => rfl
  unfold recB stream_record.f
  simp only
  by_cases h3 : a = 3
  · have h2 := okP_le (G.from3 h3)
    have h4 := G.data0 (by show a ≠ 4; omega)
    have h5 := G.off0 (by show ¬ (a = 4 ∨ a = 5); omega)
    simp only at h2 h4 h5
    subst h4 h5
    have eq : [a % 256] ++ (digits (b.size : Int) 1 ++ bytesOf b) ++ (digits (c.size : Int) 1 ++ bytesOf c) ++ rest = [a % 256] ++ (digits (b.size : Int) 1 ++ bytesOf b ++ (digits (c.size : Int) 1 ++ bytesOf c ++ rest)) := by simp only [List.append_assoc]
    rw [if_pos h3, eq, if_pos (by rw [List.length_append]; simp; omega), if_pos (by rw [List.length_append]; simp; omega), hd1, TakeText_back b _ (by omega) (((digits_bytes _ _).append (bytesOf_bytes c)).append hr) (by simp only [List.length_append, digits_length, bytesOf_length]; omega), Option.bind_some, if_pos rfl, e0, ew, if_pos h3, TakeText_back c rest (by omega) hr (by omega), Option.bind_some]
    simp only [stream_record.j0, if_true]
    rw [hg', Option.bind_some]
  · rw [if_neg h3]
    have h6 := G.from0 (by show a ≠ 3; omega)
    simp only at h6
    subst h6
    by_cases h5 : a = 5
    · have h2 := G.off (Or.inr h5)
      have h4 := G.data0 (by show a ≠ 4; omega)
      simp only at h2 h4
      subst h4
      have eq : [a % 256] ++ (digits (b.size : Int) 1 ++ bytesOf b) ++ digits d 4 ++ rest = [a % 256] ++ (digits (b.size : Int) 1 ++ bytesOf b ++ (digits d 4 ++ rest)) := by simp only [List.append_assoc]
      rw [if_pos h5, eq, if_pos (by rw [List.length_append]; simp; omega), if_pos (by rw [List.length_append]; simp; omega), hd1, TakeText_back b _ (by omega) ((digits_bytes _ _).append hr) (by simp only [List.length_append, digits_length]; omega), Option.bind_some, if_pos rfl, e0, ew, if_neg h3, if_pos h5, Take4_back d rest h2.1 h2.2 hr (by omega), Option.bind_some]
      simp only [stream_record.j0, if_true]
      rw [hg', Option.bind_some]
    · rw [if_neg h5]
      by_cases h4 : a = 4
      · have h2 := G.off (Or.inl h4)
        have h7 := G.data h4
        simp only at h2 h7
        have eq : [a % 256] ++ (digits (b.size : Int) 1 ++ bytesOf b) ++ (digits d 4 ++ (digits (l.length : Int) 2 ++ l)) ++ rest = [a % 256] ++ (digits (b.size : Int) 1 ++ bytesOf b ++ (digits d 4 ++ (digits (l.length : Int) 2 ++ l ++ rest))) := by simp only [List.append_assoc]
        have hbl : Bytes (digits (l.length : Int) 2 ++ l ++ rest) := ((digits_bytes _ _).append hb).append hr
        rw [if_pos h4, eq, if_pos (by rw [List.length_append]; simp; omega), if_pos (by rw [List.length_append]; simp; omega), hd1, TakeText_back b _ (by omega) ((digits_bytes _ _).append hbl) (by simp only [List.length_append, digits_length]; omega), Option.bind_some, if_pos rfl, e0, ew, if_neg h3, if_neg h5, if_pos h4, Take4_back d _ h2.1 h2.2 hbl (by simp only [List.length_append, digits_length]; omega), Option.bind_some, if_pos rfl, TakeBytes_back l rest hb (by omega) hr (by omega), Option.bind_some]
        simp only [stream_record.j0, if_true]
        rw [hg', Option.bind_some]
      · have h2 := G.off0 (by show ¬ (a = 4 ∨ a = 5); omega)
        have h7 := G.data0 h4
        simp only at h2 h7
        subst h2 h7
        have eq : [a % 256] ++ (digits (b.size : Int) 1 ++ bytesOf b) ++ [] ++ rest = [a % 256] ++ (digits (b.size : Int) 1 ++ bytesOf b ++ rest) := by simp only [List.append_assoc, List.nil_append]
        rw [if_neg h4, eq, if_pos (by rw [List.length_append]; simp; omega), if_pos (by rw [List.length_append]; simp; omega), hd1, TakeText_back b rest (by omega) hr (by omega), Option.bind_some, if_pos rfl, e0, ew, if_neg h3, if_neg h5, if_neg h4]
        simp only [stream_record.j0, if_true]
        rw [hg', Option.bind_some]
theorem j0_is (q : Nat) (hq : 1 ≤ q) (rest : List Int) (e f a : Int) (b c : ByteArray) (d : Int) (l : List Int) :
    stream_record.j0 (q + 1) rest e f a b c d l = some (a, b, c, d, l, rest, if e = 0 ∧ f = 0 then goodR ⟨a, b, c, d, l⟩ else false) := by
  simp only [stream_record.j0, good_is q hq ⟨a, b, c, d, l⟩, Option.bind_some]
  by_cases he : e = 0
  · by_cases hf : f = 0
    · rw [if_pos he, if_pos hf, if_pos ⟨he, hf⟩]
    · rw [if_pos he, if_neg hf, if_neg (fun h => hf h.2)]
  · rw [if_neg he, if_neg (fun h => he h.1)]
def recO (t : Int × ByteArray × ByteArray × Int × List Int × List Int × Bool) : S37 := ⟨t.1, t.2.1, t.2.2.1, t.2.2.2.1, t.2.2.2.2.1⟩
def recRest (t : Int × ByteArray × ByteArray × Int × List Int × List Int × Bool) : List Int := t.2.2.2.2.2.1
def recFlag (t : Int × ByteArray × ByteArray × Int × List Int × List Int × Bool) : Bool := t.2.2.2.2.2.2
theorem str_size (x : List Int) (h : Bytes x) : (strOfNums x).size = x.length := by
  have := congrArg List.length (bytes_of x h)
  rwa [bytesOf_length] at this
theorem takeRowR_bad (l : List Int) (n : Int) (h : (takeRowR l n).2.2 ≠ 0) : (takeRowR l n).2.1 = [] := by rw [takeRowR_err l n h]
theorem takeR_bad (l : List Int) (n : Int) (h : (takeR l n).2.2 ≠ 0) : (takeR l n).2.1 = [] := by
  unfold takeR at *
  split
  · rfl
  · rename_i h1
    rw [if_neg h1] at h
    split
    · rfl
    · rename_i h2
      rw [if_neg h2] at h
      exact absurd rfl h
/-- What is taken as a record: it may be, and is laid down as the same bytes. -/
theorem rec_form (k : Nat) (hk : 3 ≤ k) (L : List Int) (hb : Bytes L) (h0 : 0 < L.length) (hl : L.length ≤ 100000) :
    ∃ t, stream_record.f k L = some t ∧ (recRest t).length < L.length ∧ Bytes (recRest t) ∧ (recFlag t = true → Good (recO t) ∧ Bytes (recO t).f4 ∧ L = recB (recO t) ++ recRest t) := by
  obtain ⟨q, rfl⟩ : ∃ q, k = q + 1 := ⟨k - 1, by omega⟩
  obtain ⟨c, M, rfl⟩ : ∃ c M, L = c :: M := by
    cases L with
    | nil => exact absurd h0 (Nat.lt_irrefl 0)
    | cons c M => exact ⟨c, M, rfl⟩
  have hc := hb c (by simp)
  have hbM : Bytes M := fun x hx => hb x (List.mem_cons_of_mem _ hx)
  rw [List.length_cons] at hl
  have ew : wrap64 (rd (c :: M) 0) = c := by
    show wrap64 c = c
    unfold wrap64; omega
  have cm : c % 256 = c := by omega
  unfold stream_record.f
  rw [if_pos (by rw [List.length_cons]; omega), if_pos (by rw [List.length_cons]; omega), show (c :: M).drop 1 = M from rfl, TakeText_small M hbM (by omega), Option.bind_some, ew]
  obtain ⟨⟨x, r, e⟩, hT⟩ : ∃ T, takeRowR M 1 = T := ⟨_, rfl⟩
  have hbad := takeRowR_bad M 1
  have hform := takeRowR_form M 1 (by decide) (by decide) hbM
  rw [show ((1 : Nat) : Int) = 1 from rfl] at hform
  rw [hT] at hbad hform
  rw [hT]
  simp only at hbad hform ⊢
  by_cases he : e = 0
  · obtain ⟨hM, hx, hbx, hbr⟩ := hform he
    have hs := str_size x hbx
    have hbs := bytes_of x hbx
    have hML : M.length = 1 + (x.length + r.length) := by rw [hM]; simp only [List.length_append, digits_length]
    rw [if_pos he]
    obtain ⟨s, hse⟩ : ∃ s, strOfNums x = s := ⟨_, rfl⟩
    rw [hse] at hs hbs
    rw [hse]
    have fin : ∀ (f2 : Int) (cc : ByteArray) (d : Int) (l r2 : List Int), (r2.length ≤ r.length) → Bytes r2 → ((f2 = 0 ∧ goodR ⟨c, s, cc, d, l⟩ = true) → Bytes l ∧ r = (if c = 3 then digits (cc.size : Int) 1 ++ bytesOf cc else if c = 5 then digits d 4 else if c = 4 then digits d 4 ++ (digits (l.length : Int) 2 ++ l) else []) ++ r2) →
        ∀ t, t = (c, s, cc, d, l, r2, if f2 = 0 then goodR ⟨c, s, cc, d, l⟩ else false) → (recRest t).length < (c :: M).length ∧ Bytes (recRest t) ∧ (recFlag t = true → Good (recO t) ∧ Bytes (recO t).f4 ∧ c :: M = recB (recO t) ++ recRest t) := by
      rintro f2 cc d l r2 h1 h2 h3 t rfl
      refine ⟨by show r2.length < _; rw [List.length_cons]; omega, h2, fun hf => ?_⟩
      have hf2 : f2 = 0 := by
        by_cases q : f2 = 0
        · exact q
        · have : (if f2 = 0 then goodR ⟨c, s, cc, d, l⟩ else false) = true := hf
          rw [if_neg q] at this
          cases this
      have hg : goodR ⟨c, s, cc, d, l⟩ = true := by
        have : (if f2 = 0 then goodR ⟨c, s, cc, d, l⟩ else false) = true := hf
        rwa [if_pos hf2] at this
      obtain ⟨h4, h5⟩ := h3 ⟨hf2, hg⟩
      refine ⟨(goodR_is _).1 hg, h4, ?_⟩
      show c :: M = recB ⟨c, s, cc, d, l⟩ ++ r2
      unfold recB
      simp only
      rw [hM, hs, hbs, cm, h5]
      simp only [List.append_assoc, List.singleton_append, List.cons_append, List.nil_append]
    by_cases h3 : c = 3
    · rw [if_pos h3, TakeText_small r hbr (by omega), Option.bind_some]
      obtain ⟨⟨y, r2, e2⟩, hT2⟩ : ∃ T, takeRowR r 1 = T := ⟨_, rfl⟩
      have hbad2 := takeRowR_bad r 1
      have hform2 := takeRowR_form r 1 (by decide) (by decide) hbr
      rw [show ((1 : Nat) : Int) = 1 from rfl] at hform2
      rw [hT2] at hbad2 hform2
      rw [hT2]
      simp only at hbad2 hform2 ⊢
      rw [j0_is q (by omega)]
      refine ⟨_, rfl, fin e2 (strOfNums y) 0 [] r2 ?_ ?_ ?_ _ ?_⟩
      · by_cases q2 : e2 = 0
        · have := (hform2 q2).1
          rw [this]
          simp only [List.length_append]
          omega
        · rw [hbad2 q2]; exact Nat.zero_le _
      · by_cases q2 : e2 = 0
        · exact (hform2 q2).2.2.2
        · rw [hbad2 q2]; exact Bytes.nil
      · rintro ⟨q2, _⟩
        obtain ⟨hr, _, hby, _⟩ := hform2 q2
        refine ⟨Bytes.nil, ?_⟩
        rw [if_pos h3, str_size y hby, bytes_of y hby, List.append_assoc]
        exact hr
      · simp
    · rw [if_neg h3]
      by_cases h5 : c = 5
      · rw [if_pos h5, Take_is r 4 hbr (by omega), Option.bind_some]
        obtain ⟨⟨v, r2, e2⟩, hT2⟩ : ∃ T, takeR r 4 = T := ⟨_, rfl⟩
        have hbad2 := takeR_bad r 4
        have hform2 := takeR_form r 4 (by decide) (by decide) hbr
        rw [show ((4 : Nat) : Int) = 4 from rfl] at hform2
        rw [hT2] at hbad2 hform2
        rw [hT2]
        simp only at hbad2 hform2 ⊢
        rw [j0_is q (by omega)]
        refine ⟨_, rfl, fin e2 ⟨#[]⟩ v [] r2 ?_ ?_ ?_ _ ?_⟩
        · by_cases q2 : e2 = 0
          · have := (hform2 q2).1
            rw [this]
            simp only [List.length_append]
            omega
          · rw [hbad2 q2]; exact Nat.zero_le _
        · by_cases q2 : e2 = 0
          · have := (hform2 q2).1
            rw [this] at hbr
            exact fun z hz => hbr z (List.mem_append_right _ hz)
          · rw [hbad2 q2]; exact Bytes.nil
        · rintro ⟨q2, _⟩
          refine ⟨Bytes.nil, ?_⟩
          rw [if_neg h3, if_pos h5]
          exact (hform2 q2).1
        · simp
      · rw [if_neg h5]
        by_cases h4 : c = 4
        · rw [if_pos h4, Take_is r 4 hbr (by omega), Option.bind_some]
          obtain ⟨⟨v, r2, e2⟩, hT2⟩ : ∃ T, takeR r 4 = T := ⟨_, rfl⟩
          have hbad2 := takeR_bad r 4
          have hform2 := takeR_form r 4 (by decide) (by decide) hbr
          rw [show ((4 : Nat) : Int) = 4 from rfl] at hform2
          rw [hT2] at hbad2 hform2
          rw [hT2]
          simp only at hbad2 hform2 ⊢
          by_cases q2 : e2 = 0
          · have hr := (hform2 q2).1
            have hbr2 : Bytes r2 := by
              rw [hr] at hbr
              exact fun z hz => hbr z (List.mem_append_right _ hz)
            have hrl : r.length = 4 + r2.length := by rw [hr]; simp only [List.length_append, digits_length]
            rw [if_pos q2, TakeBytes_is r2 hbr2 (by omega), Option.bind_some]
            obtain ⟨⟨y, r3, e3⟩, hT3⟩ : ∃ T, takeRowR r2 2 = T := ⟨_, rfl⟩
            have hbad3 := takeRowR_bad r2 2
            have hform3 := takeRowR_form r2 2 (by decide) (by decide) hbr2
            rw [show ((2 : Nat) : Int) = 2 from rfl] at hform3
            rw [hT3] at hbad3 hform3
            rw [hT3]
            simp only at hbad3 hform3 ⊢
            rw [j0_is q (by omega)]
            refine ⟨_, rfl, fin e3 ⟨#[]⟩ v y r3 ?_ ?_ ?_ _ ?_⟩
            · by_cases q3 : e3 = 0
              · have := (hform3 q3).1
                rw [hrl, this]
                simp only [List.length_append]
                omega
              · rw [hbad3 q3]; exact Nat.zero_le _
            · by_cases q3 : e3 = 0
              · exact (hform3 q3).2.2.2
              · rw [hbad3 q3]; exact Bytes.nil
            · rintro ⟨q3, _⟩
              obtain ⟨hr3, _, hby, _⟩ := hform3 q3
              refine ⟨hby, ?_⟩
              rw [if_neg h3, if_neg h5, if_pos h4, hr]
              conv => lhs; rw [hr3]
              simp only [List.append_assoc]
            · simp [q2]
          · rw [if_neg q2, j0_is q (by omega)]
            refine ⟨_, rfl, fin e2 ⟨#[]⟩ v [] r2 ?_ ?_ ?_ _ ?_⟩
            · rw [hbad2 q2]; exact Nat.zero_le _
            · rw [hbad2 q2]; exact Bytes.nil
            · rintro ⟨q3, _⟩
              exact absurd q3 q2
            · simp
        · rw [if_neg h4, j0_is q (by omega)]
          refine ⟨_, rfl, fin 0 ⟨#[]⟩ 0 [] r (Nat.le_refl _) hbr ?_ _ ?_⟩
          · intro _
            refine ⟨Bytes.nil, ?_⟩
            rw [if_neg h3, if_neg h5, if_neg h4, List.nil_append]
          · simp
  · rw [if_neg he]
    refine ⟨_, rfl, ?_, ?_, ?_⟩
    · show (0 : Nat) < _
      rw [List.length_cons]; omega
    · exact Bytes.nil
    · intro h
      exact absurd h (by show ¬ false = true; decide)
end Go.Proofs.YtgklipfeheohkaaDoor.P
end

section
namespace Go.Proofs.YtgklipfeheohkaaDoor.P
open Go.RowKit Go.Proofs.YtgklipfeheohkaaDoorW.PrintWords Go.Proofs.YtgklipfeheohkaaDoorW.PrintLast Go.Proofs.YtgklipfeheohkaaDoorW.PrintMore Go.Proofs.YtgklipfeheohkaaDoor.NumLem
set_option linter.unusedVariables false
set_option linter.unusedSimpArgs false
/-- Rows of bytes are one if their strings are. -/
theorem rows_inj {l m : List Int} (hl : Bytes l) (hm : Bytes m) : (strOfNums l).toList = (strOfNums m).toList ↔ l = m := by
  refine ⟨fun h => ?_, fun h => by rw [h]⟩
  have e : ∀ q : List Int, (strOfNums q).toList = q.map (fun n : Int => UInt8.ofNat n.toNat) := fun q => by rw [Lib.strOfNums_toList]; rfl
  rw [e, e] at h
  have h2 := congrArg (List.map (fun b : UInt8 => (b.toNat : Int))) h
  rw [List.map_map, List.map_map] at h2
  have key : ∀ q : List Int, Bytes q → q.map ((fun b : UInt8 => (b.toNat : Int)) ∘ fun n : Int => UInt8.ofNat n.toNat) = q := by
    intro q hq
    conv => rhs; rw [← List.map_id q]
    apply List.map_congr_left
    intro x hx
    have := hq x hx
    simp
    omega
  rw [key l hl, key m hm] at h2
  exact h2
theorem rows_inj2 {l m : List Int} (hl : Bytes l) (hm : Bytes m) : strOfNums l = strOfNums m ↔ l = m := by
  refine ⟨fun h => (rows_inj hl hm).1 (by rw [h]), fun h => by rw [h]⟩
/-- Records that may be. -/
def Recs (l : List S37) : Prop := ∀ r ∈ l, Good r ∧ Bytes r.f4
theorem Recs.cons {r : S37} {l : List S37} (h : Recs (r :: l)) : (Good r ∧ Bytes r.f4) ∧ Recs l := ⟨h r (by simp), fun x hx => h x (List.mem_cons_of_mem _ hx)⟩
theorem flatB_bytes : ∀ (l : List S37), Recs l → Bytes (flatB l)
  | [], _ => Bytes.nil
  | r :: l, h => by
    rw [flatB_cons]
    exact (recB_bytes h.cons.1.2).append (flatB_bytes l h.cons.2)
theorem recB_pos (r : S37) : 1 ≤ (recB r).length := by
  unfold recB
  simp only [List.length_append, List.length_singleton]
  omega
theorem flatB_pos : ∀ (l : List S37), l.length ≤ (flatB l).length
  | [] => Nat.zero_le _
  | r :: l => by
    rw [flatB_cons, List.length_append, List.length_cons]
    have := recB_pos r
    have := flatB_pos l
    omega
theorem loop_back : ∀ (l acc : List S37) (k : Nat), Recs l → (flatB l).length ≤ 100000 → acc.length + l.length ≤ 1000000 → l.length + 3 < k → stream_Take.l0 k (flatB l) acc = some (acc ++ l, true)
  | [], acc, k, _, _, _, hk => by
    obtain ⟨q, rfl⟩ : ∃ q, k = q + 1 := ⟨k - 1, by omega⟩
    unfold stream_Take.l0
    rw [if_neg (show ¬ 0 < (flatB []).length by decide), List.append_nil]
  | r :: l, acc, k, h, hl, ha, hk => by
    obtain ⟨q, rfl⟩ : ∃ q, k = q + 1 := ⟨k - 1, by omega⟩
    rw [List.length_cons] at ha hk
    have hp := recB_pos r
    rw [flatB_cons, List.length_append] at hl
    have ih := loop_back l (acc ++ [r]) q h.cons.2 (by omega) (by rw [List.length_append, List.length_singleton]; omega) (by omega)
    unfold stream_Take.l0
    rw [flatB_cons, if_pos (by rw [List.length_append]; omega), if_pos (by omega), rec_back q (by omega) r h.cons.1.1 h.cons.1.2 (flatB l) (flatB_bytes l h.cons.2) (by omega), Option.bind_some]
    simp only [if_true]
    rw [ih, List.append_assoc, List.singleton_append]
theorem loop_form : ∀ (k : Nat) (x : List Int) (acc : List S37), Bytes x → x.length ≤ 100000 → acc.length + x.length ≤ 1000000 → x.length + 3 < k →
    ∃ u, stream_Take.l0 k x acc = some u ∧ (u.2 = true → ∃ l, u.1 = acc ++ l ∧ Recs l ∧ x = flatB l)
  | 0, _, _, _, _, _, h => absurd h (Nat.not_lt_zero _)
  | k + 1, x, acc, hb, hl, ha, hk => by
    unfold stream_Take.l0
    by_cases h0 : 0 < x.length
    · obtain ⟨t, ht, h1, h2, h3⟩ := rec_form k (by omega) x hb h0 hl
      rw [if_pos h0, if_pos (by omega), ht, Option.bind_some]
      by_cases hf : recFlag t = true
      · obtain ⟨g1, g2, g3⟩ := h3 hf
        obtain ⟨u, hu, h4⟩ := loop_form k (recRest t) (acc ++ [recO t]) h2 (by omega) (by rw [List.length_append, List.length_singleton]; omega) (by omega)
        refine ⟨u, ?_, fun h => ?_⟩
        · have hf' : t.snd.snd.snd.snd.snd.snd = true := hf
          rw [if_pos hf']
          exact hu
        · obtain ⟨l, e1, e2, e3⟩ := h4 h
          refine ⟨recO t :: l, ?_, ?_, ?_⟩
          · rw [e1, List.append_assoc, List.singleton_append]
          · intro r hr
            rcases List.mem_cons.1 hr with rfl | hr
            · exact ⟨g1, g2⟩
            · exact e2 r hr
          · rw [flatB_cons, ← e3]
            exact g3
      · have hf' : ¬ t.snd.snd.snd.snd.snd.snd = true := hf
        rw [if_neg hf']
        exact ⟨_, rfl, fun h => by cases h⟩
    · rw [if_neg h0]
      refine ⟨_, rfl, fun _ => ⟨[], by simp, (fun r hr => by cases hr), List.eq_nil_of_length_eq_zero (by omega)⟩⟩
/-- A stream: of these records, with or without a base. -/
def IsS (b : List Int) (l : List S37) (base : Bool) : Prop := Recs l ∧ b = sealS (headB base ++ flatB l) ∧ b.length ≤ 65536
theorem lowB_bytes (x : Int) : Bytes (lowB x) := by
  intro z hz
  simp only [lowB, List.mem_cons, List.mem_nil_iff, or_false] at hz
  rcases hz with rfl | rfl | rfl | rfl <;> omega
theorem sealS_len (x : List Int) : (sealS x).length = x.length + 5 := by
  unfold sealS
  rw [List.length_append, List.length_append, lowB_len, List.length_singleton]
theorem headB_len (base : Bool) : (headB base).length = 3 := rfl
/-- What is a stream is taken. -/
theorem take_back2 (b : List Int) (l : List S37) (base : Bool) (h : IsS b l base) (k : Nat) (hk : 70000 ≤ k) : stream_Take.f k b = some (l, base, 0) := by
  obtain ⟨hr, hb, hl⟩ := h
  have hlen : b.length = (flatB l).length + 8 := by rw [hb, sealS_len, List.length_append, headB_len]; omega
  have hll := flatB_pos l
  have e1 : b.take (b.length - 4) = headB base ++ flatB l ++ [8] := by
    rw [hb, sealS_len]
    unfold sealS
    rw [List.take_left' (by simp only [List.length_append, List.length_singleton]; omega)]
  have e2 : b.drop (b.length - 4) = lowB (crcB (headB base ++ flatB l ++ [8])) := by
    rw [hb, sealS_len]
    unfold sealS
    rw [List.drop_left' (by simp only [List.length_append, List.length_singleton]; omega)]
  have e3 : b.take (b.length - 5) = headB base ++ flatB l := by
    rw [hb, sealS_len]
    unfold sealS
    rw [List.append_assoc, List.take_left' (by simp only [List.length_append]; omega)]
  have e4 : b = 67 :: 66 :: (if base then 1 else 0) :: (flatB l ++ 8 :: lowB (crcB (headB base ++ flatB l ++ [8]))) := by
    rw [hb]
    unfold sealS headB
    simp
  have e5 : rd b 2 = if base then 1 else 0 := by rw [e4]; rfl
  have e6 : rd b ((b.length - 5 : Nat) : Int) = 8 := by
    have h1 : b = (headB base ++ flatB l) ++ 8 :: lowB (crcB (headB base ++ flatB l ++ [8])) := by
      rw [hb]
      unfold sealS
      simp
    have h2 : b.length - 5 = (headB base ++ flatB l).length := by rw [List.length_append, headB_len]; omega
    unfold rd
    rw [Int.toNat_natCast, h2]
    conv => lhs; rw [h1]
    rw [List.getD_eq_getElem?_getD, List.getElem?_append_right (Nat.le_refl _), Nat.sub_self]
    rfl
  have e7 : (strOfNums (b.take 2)).toList = ([67, 66] : List UInt8) := by
    rw [e4]
    show (strOfNums [67, 66]).toList = _
    rw [ByteArray.toList_eq]
    decide
  unfold stream_Take.f
  rw [if_neg (by omega), if_neg (by omega), if_neg (by rw [e7]; simp), e5, if_neg (by cases base <;> decide), e6, if_neg (by decide), e1, tail_is, Option.bind_some, e2, if_neg (by simp), e3]
  rw [show (headB base ++ flatB l).drop 3 = flatB l from by rw [List.drop_left' (headB_len base)], loop_back l [] k hr (by omega) (by simp; omega) (by omega), Option.bind_some, List.nil_append]
  simp only [if_true]
  cases base <;> rfl
/-- Any bytes: a stream, or none. -/
theorem take_spec (b : List Int) (hb : Bytes b) (k : Nat) (hk : 70000 ≤ k) :
    ∃ res, stream_Take.f k b = some res ∧ ((∃ l base, IsS b l base ∧ res = (l, base, 0)) ∨ ((∀ l base, ¬ IsS b l base) ∧ res = ([], false, 26))) := by
  by_cases hs : ∃ l base, IsS b l base
  · obtain ⟨l, base, h⟩ := hs
    exact ⟨_, take_back2 b l base h k hk, Or.inl ⟨l, base, h, rfl⟩⟩
  · refine ⟨([], false, 26), ?_, Or.inr ⟨fun l base h => hs ⟨l, base, h⟩, rfl⟩⟩
    unfold stream_Take.f
    by_cases c1 : b.length < 8
    · rw [if_pos c1]
    rw [if_neg c1]
    by_cases c2 : 65536 < b.length
    · rw [if_pos c2]
    rw [if_neg c2]
    by_cases c3 : (strOfNums (b.take 2)).toList ≠ ([67, 66] : List UInt8)
    · rw [if_pos c3]
    rw [if_neg c3]
    by_cases c4 : 1 < rd b 2
    · rw [if_pos c4]
    rw [if_neg c4]
    by_cases c5 : rd b ((b.length - 5 : Nat) : Int) ≠ 8
    · rw [if_pos c5]
    rw [if_neg c5, tail_is, Option.bind_some]
    by_cases c6 : strOfNums (b.drop (b.length - 4)) ≠ strOfNums (lowB (crcB (b.take (b.length - 4))))
    · rw [if_pos c6]
    rw [if_neg c6]
    have hx : Bytes ((b.take (b.length - 5)).drop 3) := (hb.take _).drop _
    have hxl : ((b.take (b.length - 5)).drop 3).length ≤ 65536 := by rw [List.length_drop, List.length_take]; omega
    obtain ⟨u, hu, hform⟩ := loop_form k _ [] hx (by omega) (by simp only [List.length_nil]; omega) (by omega)
    rw [hu, Option.bind_some]
    by_cases hf : u.2 = true
    · exfalso
      obtain ⟨l, _, hr, he⟩ := hform hf
      have c3' : (strOfNums (b.take 2)).toList = (strOfNums [67, 66]).toList := by
        rw [show (strOfNums [67, 66]).toList = ([67, 66] : List UInt8) from by rw [ByteArray.toList_eq]; decide]
        exact Classical.byContradiction c3
      have h2 : b.take 2 = [67, 66] := (rows_inj (hb.take 2) (by intro z hz; simp at hz; omega)).1 c3'
      have h6 : b.drop (b.length - 4) = lowB (crcB (b.take (b.length - 4))) := (rows_inj2 (hb.drop _) (lowB_bytes _)).1 (Classical.byContradiction c6)
      have c5' : rd b ((b.length - 5 : Nat) : Int) = 8 := Classical.byContradiction c5
      have h8 : b.take (b.length - 4) = b.take (b.length - 5) ++ [8] := by
        rw [show b.length - 4 = (b.length - 5) + 1 from by omega, List.take_succ_eq_append_getElem (by omega)]
        congr 2
        unfold rd at c5'
        rw [Int.toNat_natCast, List.getD_eq_getElem?_getD, List.getElem?_eq_getElem (by omega)] at c5'
        exact c5'
      have h3 : b.take (b.length - 5) = (b.take (b.length - 5)).take 3 ++ flatB l := by rw [← he, List.take_append_drop]
      have h3b : (b.take (b.length - 5)).take 3 = b.take 2 ++ [rd b 2] := by
        rw [List.take_take, show min 3 (b.length - 5) = 2 + 1 from by omega, List.take_succ_eq_append_getElem (by omega)]
        congr 2
        unfold rd
        rw [show (2 : Int).toNat = 2 from rfl, List.getD_eq_getElem?_getD, List.getElem?_eq_getElem (by omega)]
        rfl
      have hrd : 0 ≤ rd b 2 ∧ rd b 2 < 256 := by
        have : rd b 2 = b[2]'(by omega) := by
          unfold rd
          rw [show (2 : Int).toNat = 2 from rfl, List.getD_eq_getElem?_getD, List.getElem?_eq_getElem (by omega)]
          rfl
        rw [this]
        exact hb _ (List.getElem_mem _)
      have hh : [67, 66] ++ [rd b 2] = headB (rd b 2 == 1) := by
        have : rd b 2 = 0 ∨ rd b 2 = 1 := by omega
        rcases this with q | q <;> rw [q] <;> rfl
      refine hs ⟨l, rd b 2 == 1, hr, ?_, by omega⟩
      have hw : b = b.take (b.length - 4) ++ b.drop (b.length - 4) := (List.take_append_drop _ _).symm
      have hP : b.take (b.length - 4) = headB (rd b 2 == 1) ++ flatB l ++ [8] := by rw [h8, h3, h3b, h2, hh]
      unfold sealS
      rw [← hP, ← h6]
      exact hw
    · rw [if_neg hf]
theorem putS_bad (l : List S37) (base : Bool) (h : l.all goodR = false) : putS l base = ([], 1) := by
  unfold putS putFrom
  rw [if_neg (by rw [h]; decide)]
theorem same_self (l : List S37) (hl : l.length ≤ 100000) : cambiumref19_Same.f l l = some true := by
  unfold cambiumref19_Same.f
  rw [if_pos ⟨rfl, by omega⟩]
theorem u8_bytes {l : List Int} (h : ∀ y ∈ l, (Lit.int .u8 y).wf = true) : Bytes l := by
  intro x hx
  exact SumLem.wf_u8 (h x hx)
end Go.Proofs.YtgklipfeheohkaaDoor.P
end

section
namespace Go.Proofs.YtgklipfeheohkaaDoor.P
open Go.RowKit Go.Proofs.YtgklipfeheohkaaDoorW.PrintWords Go.Proofs.YtgklipfeheohkaaDoorW.PrintLast Go.Proofs.YtgklipfeheohkaaDoorW.PrintMore Go.Proofs.YtgklipfeheohkaaDoor.NumLem
set_option linter.unusedVariables false
set_option linter.unusedSimpArgs false
theorem takeR_one (c : Int) (M : List Int) (h : 0 ≤ c ∧ c < 256) : takeR (c :: M) 1 = (c, M, 0) := by
  obtain ⟨m, rfl⟩ := Int.eq_ofNat_of_zero_le h.1
  have e := takeR_digits m 1 M (by decide) (by decide) (by omega)
  have e2 : digits (m : Int) 1 ++ M = (m : Int) :: M := by
    show ((m : Int) % 256) :: M = _
    rw [show (m : Int) % 256 = m by omega]
  rw [e2] at e
  exact e
def bad26 : Option (List S37 × Bool × Int) := some ([], false, 26)
theorem ref_step (L : List Int) (hb : Bytes L) (h0 : 0 < L.length) (hl : L.length ≤ 100000) :
    ∃ t, stream_record.f 5 L = some t ∧ ((recFlag t = false ∧ ∀ k, 20 ≤ k → ∀ b acc, cambiumref19_Take.l0 (k + 6) b L acc = bad26) ∨ (recFlag t = goodR (recO t) ∧ ∀ k, 20 ≤ k → ∀ b (acc : List S37), acc.length ≤ 1000000 → cambiumref19_Take.l0 (k + 6) b L acc = cambiumref19_Take.l0 k b (recRest t) (acc ++ [recO t]))) := by
  obtain ⟨c, M, rfl⟩ : ∃ c M, L = c :: M := by
    cases L with
    | nil => exact absurd h0 (Nat.lt_irrefl 0)
    | cons c M => exact ⟨c, M, rfl⟩
  have hc := hb c (by simp)
  have hbM : Bytes M := fun x hx => hb x (List.mem_cons_of_mem _ hx)
  rw [List.length_cons] at hl
  have ew : wrap64 (rd (c :: M) 0) = c := by
    show wrap64 c = c
    unfold wrap64; omega
  have hform := takeRowR_form M 1 (by decide) (by decide) hbM
  rw [show ((1 : Nat) : Int) = 1 from rfl] at hform
  have s1 := TakeText_small M hbM (by omega)
  obtain ⟨⟨x, r, e⟩, hT⟩ : ∃ T, takeRowR M 1 = T := ⟨_, rfl⟩
  have r1 : ∀ k, 10 ≤ k → cambiumref01_TakeText.f k M = some (strOfNums x, r, e) := fun k hk => by rw [refTakeText_is k hk M hbM (by omega), hT]
  have r0 : ∀ k, 10 ≤ k → cambiumref01_Take.f k (c :: M) 1 = some (c, M, 0) := fun k hk => by rw [refTake_k k hk (c :: M) 1 hb (by rw [List.length_cons]; omega), takeR_one c M hc]
  rw [hT] at hform s1
  simp only at hform s1
  have hlt : ¬ ((c :: M).length : Int) ≤ 0 := by rw [List.length_cons]; omega
  have hgt : ((c :: M).length : Int) > 0 := by rw [List.length_cons]; omega
  -- the reference, up to its first join
  have R : ∀ k, 20 ≤ k → ∀ b acc, cambiumref19_Take.l0 (k + 6) b (c :: M) acc = if e = 0 then cambiumref19_Take.j2 (k + 5) b acc c r e (c == 3) c (strOfNums x) ⟨#[]⟩ 0 else bad26 := by
    intro k hk b acc
    unfold cambiumref19_Take.l0
    rw [if_pos hgt, r0 (k + 5) (by omega), Option.bind_some, r1 (k + 5) (by omega), Option.bind_some]
    by_cases he : e = 0
    · rw [if_pos he, if_pos he]
    · rw [if_neg he, if_neg he]
      simp only [cambiumref19_Take.j2, cambiumref19_Take.j3, cambiumref19_Take.j4, cambiumref19_Take.j5, cambiumref19_Take.j6]
      simp [he, bad26]
  unfold stream_record.f
  rw [if_pos hgt, if_pos (by rw [List.length_cons]; omega), show (c :: M).drop 1 = M from rfl, s1, Option.bind_some, ew]
  simp only
  by_cases he : e = 0
  case neg =>
    rw [if_neg he]
    refine ⟨_, rfl, Or.inl ⟨rfl, fun k hk b acc => ?_⟩⟩
    rw [R k hk b acc, if_neg he]
  obtain ⟨hM, hx, hbx, hbr⟩ := hform he
  have hML : M.length = 1 + (x.length + r.length) := by rw [hM]; simp only [List.length_append, digits_length]
  subst he
  simp only [if_true] at R ⊢
  obtain ⟨s, hse⟩ : ∃ s, strOfNums x = s := ⟨_, rfl⟩
  rw [hse] at R ⊢
  by_cases h3 : c = 3
  · have s2 := TakeText_small r hbr (by omega)
    obtain ⟨⟨y, r2, e2⟩, hT2⟩ : ∃ T, takeRowR r 1 = T := ⟨_, rfl⟩
    rw [hT2] at s2
    have r2' : ∀ k, 10 ≤ k → cambiumref01_TakeText.f k r = some (strOfNums y, r2, e2) := fun k hk => by rw [refTakeText_is k hk r hbr (by omega), hT2]
    rw [if_pos h3, s2, Option.bind_some, j0_is 4 (by omega)]
    have R2 : ∀ k, 20 ≤ k → ∀ b acc, acc.length ≤ 1000000 → cambiumref19_Take.l0 (k + 6) b (c :: M) acc = if e2 = 0 then cambiumref19_Take.l0 k b r2 (acc ++ [⟨c, s, strOfNums y, 0, []⟩]) else bad26 := by
      intro k hk b acc ha
      rw [R k hk b acc]
      simp only [cambiumref19_Take.j2, cambiumref19_Take.j3, cambiumref19_Take.j4, cambiumref19_Take.j5, cambiumref19_Take.j6, r2' (k + 4) (by omega), h3, beq_self_eq_true, if_true, Option.bind_some]
      by_cases q : e2 = 0
      · subst q
        simp
        omega
      · simp [q, bad26]
    by_cases q2 : e2 = 0
    · refine ⟨_, rfl, Or.inr ⟨by simp [recFlag, recO, q2], fun k hk b acc ha => ?_⟩⟩
      rw [R2 k hk b acc ha, if_pos q2]
      rfl
    · refine ⟨_, rfl, Or.inl ⟨by simp [recFlag, q2], fun k hk b acc => ?_⟩⟩
      rw [R k hk b acc]
      simp only [cambiumref19_Take.j2, cambiumref19_Take.j3, cambiumref19_Take.j4, cambiumref19_Take.j5, cambiumref19_Take.j6, r2' (k + 4) (by omega), h3, beq_self_eq_true, if_true, Option.bind_some]
      simp [q2, bad26]
  · rw [if_neg h3]
    have b3 : (c == 3) = false := beq_eq_false_iff_ne.2 h3
    have t4 := Take_is r 4 hbr (by omega)
    obtain ⟨⟨v, r2, e2⟩, hT2⟩ : ∃ T, takeR r 4 = T := ⟨_, rfl⟩
    have hform2 := takeR_form r 4 (by decide) (by decide) hbr
    rw [show ((4 : Nat) : Int) = 4 from rfl, hT2] at hform2
    simp only at hform2
    rw [hT2] at t4
    have r4 : ∀ k, 10 ≤ k → cambiumref01_Take.f k r 4 = some (v, r2, e2) := fun k hk => by rw [refTake_k k hk r 4 hbr (by omega), hT2]
    by_cases h5 : c = 5
    · have h4 : ¬ c = 4 := by omega
      have b5 : (c == 5) = true := beq_iff_eq.2 h5
      have b4 : (c == 4) = false := beq_eq_false_iff_ne.2 h4
      rw [if_pos h5, t4, Option.bind_some, j0_is 4 (by omega)]
      by_cases q2 : e2 = 0
      · refine ⟨_, rfl, Or.inr ⟨by simp [recFlag, recO, q2], fun k hk b acc ha => ?_⟩⟩
        rw [R k hk b acc]
        simp only [cambiumref19_Take.j2, cambiumref19_Take.j3, cambiumref19_Take.j4, cambiumref19_Take.j5, cambiumref19_Take.j6, b3, b4, b5, if_neg h4, if_true, r4 (k + 2) (by omega), Option.bind_some, q2]
        simp [recO, recRest]
        omega
      · refine ⟨_, rfl, Or.inl ⟨by simp [recFlag, q2], fun k hk b acc => ?_⟩⟩
        rw [R k hk b acc]
        simp only [cambiumref19_Take.j2, cambiumref19_Take.j3, cambiumref19_Take.j4, cambiumref19_Take.j5, cambiumref19_Take.j6, b3, b4, b5, if_neg h4, if_true, r4 (k + 2) (by omega), Option.bind_some, if_neg q2]
        simp [q2, bad26]
    · rw [if_neg h5]
      have b5 : (c == 5) = false := beq_eq_false_iff_ne.2 h5
      by_cases h4 : c = 4
      · have b4 : (c == 4) = true := beq_iff_eq.2 h4
        rw [if_pos h4, t4, Option.bind_some]
        simp only
        by_cases q2 : e2 = 0
        · have hr := (hform2 q2).1
          have hbr2 : Bytes r2 := by
            rw [hr] at hbr
            exact fun z hz => hbr z (List.mem_append_right _ hz)
          have hrl : r.length = 4 + r2.length := by rw [hr]; simp only [List.length_append, digits_length]
          have t5 := TakeBytes_is r2 hbr2 (by omega)
          obtain ⟨⟨y, r3, e3⟩, hT3⟩ : ∃ T, takeRowR r2 2 = T := ⟨_, rfl⟩
          rw [hT3] at t5
          have r5 : ∀ k, 10 ≤ k → cambiumref01_TakeBytes.f k r2 = some (y, r3, e3) := fun k hk => by rw [refTakeBytes_is k hk r2 hbr2 (by omega), hT3]
          rw [if_pos q2, t5, Option.bind_some, j0_is 4 (by omega)]
          by_cases q3 : e3 = 0
          · refine ⟨_, rfl, Or.inr ⟨by simp [recFlag, recO, q2, q3], fun k hk b acc ha => ?_⟩⟩
            rw [R k hk b acc]
            simp only [cambiumref19_Take.j2, cambiumref19_Take.j3, cambiumref19_Take.j4, cambiumref19_Take.j5, cambiumref19_Take.j6, b3, b4, b5, if_pos h4, if_true, r4 (k + 2) (by omega), Option.bind_some, q2, r5 k (by omega), q3]
            simp [recO, recRest]
            omega
          · refine ⟨_, rfl, Or.inl ⟨by simp [recFlag, q3], fun k hk b acc => ?_⟩⟩
            rw [R k hk b acc]
            simp only [cambiumref19_Take.j2, cambiumref19_Take.j3, cambiumref19_Take.j4, cambiumref19_Take.j5, cambiumref19_Take.j6, b3, b4, b5, if_pos h4, if_true, r4 (k + 2) (by omega), Option.bind_some, q2, r5 k (by omega), if_neg q3]
            simp [bad26]
        · rw [if_neg q2, j0_is 4 (by omega)]
          refine ⟨_, rfl, Or.inl ⟨by simp [recFlag, q2], fun k hk b acc => ?_⟩⟩
          rw [R k hk b acc]
          simp only [cambiumref19_Take.j2, cambiumref19_Take.j3, cambiumref19_Take.j4, cambiumref19_Take.j5, cambiumref19_Take.j6, b3, b4, b5, if_pos h4, if_true, r4 (k + 2) (by omega), Option.bind_some, if_neg q2]
          simp [q2, bad26]
      · have b4 : (c == 4) = false := beq_eq_false_iff_ne.2 h4
        rw [if_neg h4, j0_is 4 (by omega)]
        refine ⟨_, rfl, Or.inr ⟨by simp [recFlag, recO], fun k hk b acc ha => ?_⟩⟩
        rw [R k hk b acc]
        simp only [cambiumref19_Take.j2, cambiumref19_Take.j3, cambiumref19_Take.j4, cambiumref19_Take.j5, cambiumref19_Take.j6, b3, b4, b5, if_neg h4, if_true]
        simp [recO, recRest]
        omega
theorem fits_more : ∀ (l m : List S37) (n : Nat), Fits n l → l.all goodR = false → Fits n (l ++ m)
  | [], _, _, _, h => by cases h
  | r :: l, m, n, h, hb => by
    refine ⟨h.1, fun hg => fits_more l m _ (h.2 hg) ?_⟩
    rw [List.all_cons, hg, Bool.true_and] at hb
    exact hb
theorem fits_good : ∀ (l m : List S37) (n : Nat), n + (flatB l).length ≤ 100000 → m.length ≤ 1 → (∀ r ∈ m, goodR r = true → n + (flatB l).length + (recB r).length ≤ 100000) → Fits n (l ++ m)
  | [], [], n, h, _, _ => by
    have : n + 0 ≤ 100000 := h
    show n ≤ 100000
    omega
  | [], [r], n, h, _, hm => by
    have h1 : n + 0 ≤ 100000 := h
    refine ⟨by omega, fun hg => ?_⟩
    have h2 : n + 0 + (recB r).length ≤ 100000 := hm r (by simp) hg
    show n + (recB r).length ≤ 100000
    omega
  | [], _ :: _ :: _, n, _, hm, _ => by simp at hm
  | r :: l, m, n, h, hm, hq => by
    rw [flatB_cons, List.length_append] at h
    refine ⟨by omega, fun hg => fits_good l m _ (by omega) hm fun z hz hgz => ?_⟩
    have := hq z hz hgz
    rw [flatB_cons, List.length_append] at this
    omega
theorem recs_all {l : List S37} (h : Recs l) : l.all goodR = true := List.all_eq_true.2 fun r hr => (goodR_is r).2 (h r hr).1
theorem ref_bad (b : List Int) (hb8 : 8 ≤ b.length) : ∀ (n : Nat) (x : List Int) (acc : List S37) (k : Nat), x.length ≤ n → Bytes x → acc.length + x.length ≤ 100000 → Fits 3 acc → acc.all goodR = false → 6 * n + 2400100 < k → cambiumref19_Take.l0 k b x acc = bad26 := by
  intro n
  induction n with
  | zero =>
    intro x acc k hn hb hl hF ha hk
    obtain ⟨q, rfl⟩ : ∃ q, k = q + 1 := ⟨k - 1, by omega⟩
    obtain rfl : x = [] := List.eq_nil_of_length_eq_zero (by omega)
    unfold cambiumref19_Take.l0
    rw [if_neg (by decide), if_pos (by omega), refput_fit acc _ (by omega) hF q (by omega), Option.bind_some, putS_bad _ _ ha, if_neg (by decide)]
    rfl
  | succ n ih =>
    intro x acc k hn hb hl hF ha hk
    by_cases h0 : 0 < x.length
    · obtain ⟨q, rfl⟩ : ∃ q, k = q + 6 := ⟨k - 6, by omega⟩
      obtain ⟨t, ht, h⟩ := ref_step x hb h0 (by omega)
      obtain ⟨t', ht', f1, f2, _⟩ := rec_form 5 (by decide) x hb h0 (by omega)
      obtain rfl : t = t' := by rw [ht] at ht'; exact Option.some.inj ht'
      rcases h with ⟨_, h⟩ | ⟨_, h⟩
      · exact h q (by omega) b acc
      · rw [h q (by omega) b acc (by omega)]
        refine ih _ _ q (by omega) f2 (by rw [List.length_append, List.length_singleton]; omega) (fits_more _ _ _ hF ha) ?_ (by omega)
        rw [List.all_append, ha, Bool.false_and]
    · exact (by
        obtain rfl : x = [] := List.eq_nil_of_length_eq_zero (by omega)
        exact (by
          obtain ⟨q, rfl⟩ : ∃ q, k = q + 1 := ⟨k - 1, by omega⟩
          unfold cambiumref19_Take.l0
          rw [if_neg (by decide), if_pos (by omega), refput_fit acc _ (by omega) hF q (by omega), Option.bind_some, putS_bad _ _ ha, if_neg (by decide)]
          rfl))
theorem headB_bytes (base : Bool) : Bytes (headB base) := by
  cases base
  all_goals
    intro z hz
    simp [headB] at hz
    omega
theorem sealS_bytes {l : List Int} (h : Bytes l) : Bytes (sealS l) := by
  have h8 : Bytes [(8 : Int)] := by
    intro z hz
    simp at hz
    omega
  exact (h.append h8).append (lowB_bytes _)
theorem ref_end (b : List Int) (hb : Bytes b) (hb8 : 8 ≤ b.length) (hb9 : b.length ≤ 65536) (acc : List S37) (hr : Recs acc) (hl : (flatB acc).length ≤ 70000) (k : Nat) (hk : 2400100 ≤ k) :
    cambiumref19_Take.l0 (k + 1) b [] acc = if b = sealS (headB (rd b 2 == 1) ++ flatB acc) then some (acc, (rd b 2 == 1), 0) else bad26 := by
  have h1 := flatB_pos acc
  have hF : Fits 3 acc := by
    have := fits_good acc [] 3 (by omega) (by simp) (fun r hr => by cases hr)
    rwa [List.append_nil] at this
  unfold cambiumref19_Take.l0
  rw [if_neg (by decide), if_pos (by omega), refput_fit acc _ (by omega) hF k (by omega), Option.bind_some]
  unfold putS putFrom
  rw [if_pos (recs_all hr)]
  unfold finS
  by_cases hq : ((sealS (headB (rd b 2 == 1) ++ flatB acc)).length : Int) > 65536
  · rw [if_pos hq, if_neg (by decide), if_neg (fun e => by rw [← e] at hq; omega)]
    rfl
  · rw [if_neg hq, if_pos rfl]
    by_cases he : b = sealS (headB (rd b 2 == 1) ++ flatB acc)
    · rw [if_pos he, if_pos ((rows_inj (sealS_bytes ((headB_bytes _).append (flatB_bytes _ hr))) hb).2 he.symm)]
    · rw [if_neg he, if_neg (fun e => he ((rows_inj (sealS_bytes ((headB_bytes _).append (flatB_bytes _ hr))) hb).1 e).symm)]
      rfl
/-- The reference's loop: the records there are, or none. -/
theorem ref_loop (b : List Int) (hb8 : 8 ≤ b.length) : ∀ (n : Nat) (x : List Int) (acc : List S37) (k : Nat), x.length ≤ n → Bytes x → Recs acc → (flatB acc).length + x.length ≤ 70000 → 6 * n + 2400200 < k →
    (∃ l q, Recs l ∧ flatB acc ++ x = flatB l ∧ 2400100 ≤ q ∧ cambiumref19_Take.l0 k b x acc = cambiumref19_Take.l0 (q + 1) b [] l) ∨ ((∀ l, Recs l → x ≠ flatB l) ∧ cambiumref19_Take.l0 k b x acc = bad26) := by
  intro n
  induction n with
  | zero =>
    intro x acc k hn hb hr hl hk
    obtain rfl : x = [] := List.eq_nil_of_length_eq_zero (by omega)
    obtain ⟨q, rfl⟩ : ∃ q, k = q + 1 := ⟨k - 1, by omega⟩
    exact Or.inl ⟨acc, q, hr, List.append_nil _, by omega, rfl⟩
  | succ n ih =>
    intro x acc k hn hb hr hl hk
    have hal := flatB_pos acc
    by_cases h0 : 0 < x.length
    case neg =>
      obtain rfl : x = [] := List.eq_nil_of_length_eq_zero (by omega)
      obtain ⟨q, rfl⟩ : ∃ q, k = q + 1 := ⟨k - 1, by omega⟩
      exact Or.inl ⟨acc, q, hr, List.append_nil _, by omega, rfl⟩
    obtain ⟨q, rfl⟩ : ∃ q, k = q + 6 := ⟨k - 6, by omega⟩
    obtain ⟨t, ht, h⟩ := ref_step x hb h0 (by omega)
    obtain ⟨t', ht', f1, f2, f3⟩ := rec_form 5 (by decide) x hb h0 (by omega)
    obtain rfl : t = t' := by rw [ht] at ht'; exact Option.some.inj ht'
    have nf : recFlag t = false → ∀ l, Recs l → x ≠ flatB l := by
      intro hf l hl2 e
      cases l with
      | nil => rw [e] at h0; exact absurd h0 (by decide)
      | cons r l =>
        rw [flatB_cons] at e
        have := rec_back 5 (by decide) r hl2.cons.1.1 hl2.cons.1.2 (flatB l) (flatB_bytes l hl2.cons.2) (by have := congrArg List.length e; rw [List.length_append] at this; omega)
        rw [← e, ht] at this
        have e2 := Option.some.inj this
        rw [e2] at hf
        cases hf
    rcases h with ⟨hf, h⟩ | ⟨hg, h⟩
    · exact Or.inr ⟨nf hf, h q (by omega) b acc⟩
    · rw [h q (by omega) b acc (by omega)]
      cases hf : recFlag t with
      | false =>
        refine Or.inr ⟨nf hf, ref_bad b hb8 n _ _ q (by omega) f2 (by rw [List.length_append, List.length_singleton]; omega) ?_ ?_ (by omega)⟩
        · refine fits_good acc _ 3 (by omega) (by simp) fun r hr2 hgr => ?_
          obtain rfl := List.mem_singleton.1 hr2
          rw [← hg, hf] at hgr
          cases hgr
        · rw [List.all_append, recs_all hr, Bool.true_and, List.all_cons, List.all_nil, Bool.and_true, ← hg, hf]
      | true =>
        obtain ⟨g1, g2, g3⟩ := f3 hf
        have hr2 : Recs (acc ++ [recO t]) := by
          intro z hz
          rcases List.mem_append.1 hz with hz | hz
          · exact hr z hz
          · rw [List.mem_singleton.1 hz]
            exact ⟨g1, g2⟩
        have hfl : flatB (acc ++ [recO t]) = flatB acc ++ recB (recO t) := by simp [flatB]
        have hlen := congrArg List.length g3
        rw [List.length_append] at hlen
        rcases ih (recRest t) (acc ++ [recO t]) q (by omega) f2 hr2 (by rw [hfl, List.length_append]; omega) (by omega) with ⟨l, q2, a1, a2, a3, a4⟩ | ⟨a1, a2⟩
        · refine Or.inl ⟨l, q2, a1, ?_, a3, a4⟩
          rw [← a2, hfl, List.append_assoc, ← g3]
        · refine Or.inr ⟨fun l hl2 e => ?_, a2⟩
          cases l with
          | nil => rw [e] at h0; exact absurd h0 (by decide)
          | cons r l =>
            rw [flatB_cons] at e
            have := rec_back 5 (by decide) r hl2.cons.1.1 hl2.cons.1.2 (flatB l) (flatB_bytes l hl2.cons.2) (by have := congrArg List.length e; rw [List.length_append] at this; omega)
            rw [← e, ht] at this
            have e2 := Option.some.inj this
            exact a1 l hl2.cons.2 (by rw [e2]; rfl)
theorem seal_body (b : List Int) (l : List S37) (base : Bool) (h : IsS b l base) : 8 ≤ b.length ∧ (b.take (b.length - 5)).drop 3 = flatB l ∧ (rd b 2 == 1) = base := by
  obtain ⟨hr, hb, h1⟩ := h
  have hlen : b.length = (headB base ++ flatB l).length + 5 := by rw [hb, sealS_len]
  refine ⟨by rw [hlen, List.length_append, headB_len]; omega, ?_, ?_⟩
  · rw [hb, sealS_len]
    unfold sealS
    rw [List.append_assoc, List.take_left' (by simp only [List.length_append]; omega), List.drop_left' (headB_len base)]
  · rw [hb]
    cases base <;> rfl
theorem flat_inj (l m : List S37) (hl : Recs l) (hm : Recs m) (h1 : (flatB l).length ≤ 70000) (e : flatB l = flatB m) : l = m := by
  have q1 := flatB_pos l
  have q2 := flatB_pos m
  rw [← e] at q2
  have t1 := loop_back l [] 80000 hl (by omega) (by simp; omega) (by omega)
  have t2 := loop_back m [] 80000 hm (by rw [← e]; omega) (by simp; omega) (by omega)
  rw [← e, t1] at t2
  have := Option.some.inj t2
  simp only [Prod.mk.injEq, List.nil_append] at this
  exact this.1
theorem reftake_spec (b : List Int) (hb : Bytes b) (hl : b.length ≤ 70000) (k : Nat) (hk : 3000000 ≤ k) :
    (∀ l base, IsS b l base → cambiumref19_Take.f k b = some (l, base, 0)) ∧ ((∀ l base, ¬ IsS b l base) → cambiumref19_Take.f k b = bad26) := by
  obtain ⟨q, rfl⟩ : ∃ q, k = q + 1 := ⟨k - 1, by omega⟩
  unfold cambiumref19_Take.f
  by_cases h8 : b.length < 8
  · rw [if_pos (by omega)]
    simp only [cambiumref19_Take.j0, if_true]
    exact ⟨fun l base h => absurd (seal_body b l base h).1 (by omega), fun _ => rfl⟩
  rw [if_neg (by omega)]
  by_cases h9 : b.length > 65536
  · rw [decide_eq_true (show (b.length : Int) > 65536 by omega)]
    simp only [cambiumref19_Take.j0, if_true]
    exact ⟨fun l base h => absurd h.2.2 (by omega), fun _ => rfl⟩
  rw [decide_eq_false (show ¬ (b.length : Int) > 65536 by omega)]
  have hw : wrap64 ((b.length : Int) - 5) = ((b.length - 5 : Nat) : Int) := by unfold wrap64; omega
  simp only [cambiumref19_Take.j0, hw]
  rw [if_neg (by decide), if_pos (by omega), if_pos (by omega), Int.toNat_natCast]
  have hx : Bytes ((b.take (b.length - 5)).drop 3) := (hb.take _).drop _
  have hxl : ((b.take (b.length - 5)).drop 3).length ≤ 65536 := by rw [List.length_drop, List.length_take]; omega
  have hnil : (flatB []).length = 0 := rfl
  rcases ref_loop b (by omega) 65536 _ [] q hxl hx (fun r hr => by cases hr) (by omega) (by omega) with ⟨l, q2, a1, a2, a3, a4⟩ | ⟨a1, a2⟩
  · have a5 : (b.take (b.length - 5)).drop 3 = flatB l := a2
    rw [a4, ref_end b hb (by omega) (by omega) l a1 (by rw [← a5]; omega) q2 a3]
    refine ⟨fun m base h => ?_, fun h => ?_⟩
    · obtain ⟨_, s1, s2⟩ := seal_body b m base h
      have e : l = m := flat_inj l m a1 h.1 (by rw [← a5]; omega) (by rw [← a5, s1])
      subst e
      rw [s2, if_pos h.2.1]
    · rw [if_neg (fun e => h l _ ⟨a1, e, by omega⟩)]
  · rw [a2]
    exact ⟨fun m base h => absurd (seal_body b m base h).2.1 (a1 m h.1), fun _ => rfl⟩
end Go.Proofs.YtgklipfeheohkaaDoor.P
end

section
namespace Go.Proofs.YtgklipfeheohkaaDoor.P
open Go.RowKit Go.Proofs.YtgklipfeheohkaaDoorW.PrintWords Go.Proofs.YtgklipfeheohkaaDoorW.PrintLast Go.Proofs.YtgklipfeheohkaaDoorW.PrintMore Go.Proofs.YtgklipfeheohkaaDoor.NumLem
set_option linter.unusedVariables false
theorem shown_mono2 : ∀ d, cambiumlaw19_shown.f (300 + d) = some true
  | 0 => shown19_is
  | d + 1 => cambiumlaw19_shown.mono (300 + d) true (shown_mono2 d)
theorem both_take (x : List Int) (hb : Bytes x) (hl : x.length ≤ 70000) (k : Nat) (hk : 3000000 ≤ k) :
    ∃ res, stream_Take.f k x = some res ∧ cambiumref19_Take.f k x = some res ∧ cambiumref19_Same.f res.1 res.1 = some true := by
  obtain ⟨res, h1, h2 | h2⟩ := take_spec x hb k (by omega)
  · obtain ⟨l, base, h3, rfl⟩ := h2
    refine ⟨_, h1, (reftake_spec x hb hl k hk).1 l base h3, same_self l ?_⟩
    have q1 := flatB_pos l
    have q2 := congrArg List.length (seal_body x l base h3).2.1
    rw [List.length_drop, List.length_take] at q2
    omega
  · obtain ⟨h3, rfl⟩ := h2
    exact ⟨_, h1, (reftake_spec x hb hl k hk).2 h3, same_self [] (by decide)⟩
theorem Pure_StreamTakes (l : List Int) (hb : Bytes l) : ∃ k, cambiumlaw19_StreamTakes.f k l = some true := by
  refine ⟨300 + 3000000, ?_⟩
  unfold cambiumlaw19_StreamTakes.f
  rw [shown_mono2, Option.bind_some]
  by_cases h : (l.length : Int) > 70000
  · have hl : (l.take 70000).length = 70000 := by rw [List.length_take]; omega
    obtain ⟨res, h1, h2, h3⟩ := both_take (l.take 70000) (hb.take _) (by omega) (300 + 3000000) (by omega)
    rw [if_pos h, if_pos (by omega), Option.bind_some, if_pos (by rw [hl]; decide), List.nil_append, h1, Option.bind_some, h2, Option.bind_some, h3, Option.bind_some]
    simp
  · obtain ⟨res, h1, h2, h3⟩ := both_take l hb (by omega) (300 + 3000000) (by omega)
    rw [if_neg h, Option.bind_some, if_pos (by show 0 + l.length < _; omega), List.nil_append, h1, Option.bind_some, h2, Option.bind_some, h3, Option.bind_some]
    simp
theorem StreamTakes_law (z0A : Option Addr) (z0c : Nat) (z0l : (List Int)) (w : World) (h0 : Aside0 (z0l.length ≤ z0c ∧ Kd.C (Kd.int .u8) w z0A z0l.length z0l ∧ (z0l.length ≤ maxLen ∧ ∀ y0_ ∈ z0l, (Lit.int .u8 y0_).wf = true))) (hL : Aside0 (laidMetH Tryd.prog Rows.streamTakesRow.laid w)) (hS : Aside0 (w.ShapedOpen Tryd.prog)) :
    Calls Tryd.prog 6 #[.slice z0A z0l.length z0c] w fun e w' => e = .returned (.bool true) ∧ Below w.heap.size w w' := by
  obtain ⟨hc, hr, _, hy⟩ := h0.out
  obtain ⟨k, h⟩ := Pure_StreamTakes z0l (u8_bytes hy)
  refine (cambiumlaw19_StreamTakes.calls k _ _ _ true w hr hc ⟨rfl⟩ h).mono ?_
  rintro e w' ⟨rfl, hb⟩
  exact ⟨rfl, hb⟩
end Go.Proofs.YtgklipfeheohkaaDoor.P
end

