/- The law SumSteps holds: the sum goes on byte by byte, and unlike sums stay unlike over the same bytes. No condition. -/
import Derived.Test.YtchhdnffhkifkaaLem
import Derived.Test.YtchhdnffhkifkaaPx2
namespace Go.Proofs.Ytchhdnffhkifkaa.Pure
open Go.RowKit Go.Proofs.Ytchhdnffhkifkaa.P Go.Proofs.Ytchhdnffhkifkaa.SumLem Go.Proofs.Ytchhdnffhkifkaa.Lem Go.Proofs.YtchhdnffhkifkaaW.PrintWords Go.Proofs.YtchhdnffhkifkaaW.PrintLast
theorem steps_l0 (s t : BitVec 32) (l : List Int) (hl : l.length ≤ 600) (d : Nat) : ∀ (k i : Nat), i ≤ l.length → l.length - i = d → d < k →
    cambiumlaw02_SumSteps.l0 k (Crc.num s) (Crc.num t) l true (Crc.num (Crc.crc s (bv (l.take i)))) (Crc.num (Crc.crc t (bv (l.take i)))) i = some true := by
  induction d with
  | zero =>
    intro k i h1 hd hk
    obtain ⟨k, rfl⟩ : ∃ m, k = m + 1 := ⟨k - 1, by omega⟩
    obtain rfl : i = l.length := by omega
    have hs := Crc.num_lt s
    have ht := Crc.num_lt t
    simp only [cambiumlaw02_SumSteps.l0]
    rw [if_neg (by omega), List.take_length, if_pos trivial, more_is _ _ hs.1 hs.2, Option.bind_some, Crc.of_num, if_pos rfl, more_is _ _ ht.1 ht.2, Option.bind_some, Crc.of_num, if_pos rfl]
    congr 1
    by_cases h : s = t
    · subst h; simp
    · have e1 : (Crc.num s == Crc.num t) = false := by simpa using fun e => h (Crc.num_inj _ _ e)
      have e2 : (Crc.num (Crc.crc s (bv l)) == Crc.num (Crc.crc t (bv l))) = false := by simpa using fun e => h (Crc.crc_inj _ _ _ (Crc.num_inj _ _ e))
      rw [e1, e2]; rfl
  | succ d ih =>
    intro k i h1 hd hk
    obtain ⟨k, rfl⟩ : ∃ m, k = m + 1 := ⟨k - 1, by omega⟩
    have hw : wrap64 ((i : Int) + 1) = ((i + 1 : Nat) : Int) := by unfold wrap64; omega
    have hi : i < l.length := by omega
    have hone : (l.take (i + 1)).drop i = [l[i]] := by
      rw [List.take_succ_eq_append_getElem hi, List.drop_left' (by rw [List.length_take]; omega)]
    have hgo : ∀ x : BitVec 32, Crc.crc (Crc.crc x (bv (l.take i))) (bv [l[i]]) = Crc.crc x (bv (l.take (i + 1))) := by
      intro x
      rw [← Crc.crc_append, ← bv_append, ← List.take_succ_eq_append_getElem hi]
    have hs := Crc.num_lt (Crc.crc s (bv (l.take i)))
    have ht := Crc.num_lt (Crc.crc t (bv (l.take i)))
    simp only [cambiumlaw02_SumSteps.l0]
    rw [if_pos (by omega), if_pos (by omega), hw, if_pos (by omega), if_pos (by omega), Int.toNat_natCast, Int.toNat_natCast, hone, more_is _ _ hs.1 hs.2, Option.bind_some, more_is _ _ ht.1 ht.2, Option.bind_some, Crc.of_num, Crc.of_num, hgo, hgo]
    exact ih k (i + 1) (by omega) (by omega) (by omega)
theorem SumSteps : cambiumlaw02_SumSteps.Pure := by
  intro s t l hs ht _ _ _
  have hb := wf_u32 hs
  have hc := wf_u32 ht
  have hl := few_len l
  refine ⟨(l.take 600).length + 1, ?_⟩
  unfold cambiumlaw02_SumSteps.f cambiumlaw02_shown.f
  simp only [few_is, Option.bind_some]
  have h := steps_l0 (BitVec.ofInt 32 s) (BitVec.ofInt 32 t) (l.take 600) hl (l.take 600).length ((l.take 600).length + 1) 0 (by omega) (by omega) (by omega)
  have e : ∀ x : BitVec 32, Crc.crc x (bv (List.take 0 (l.take 600))) = x := by
    intro x
    show (x ^^^ Crc.ones) ^^^ Crc.ones = x
    rw [BitVec.xor_assoc]
    simp
  rw [e, e, Crc.num_of s hb.1 hb.2, Crc.num_of t hc.1 hc.2] at h
  exact h
end Go.Proofs.Ytchhdnffhkifkaa.Pure
