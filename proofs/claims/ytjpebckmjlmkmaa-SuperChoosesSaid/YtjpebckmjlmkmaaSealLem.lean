import Derived.Test.YtjpebckmjlmkmaaSealPut
import Derived.Test.YtjpebckmjlmkmaaNumLem
import Derived.Test.YtjpebckmjlmkmaaPx2
/-! What opening answers. -/
namespace Go.Proofs.Ytjpebckmjlmkmaa.SealLem
open Go.RowKit Go.Proofs.Ytjpebckmjlmkmaa.P Go.Proofs.Ytjpebckmjlmkmaa.NumLem Go.Proofs.YtjpebckmjlmkmaaW.PrintWords Go.Proofs.YtjpebckmjlmkmaaW.PrintLast
set_option linter.unusedVariables false
set_option linter.unusedSimpArgs false
/-- What Open answers. -/
def openOk (l : List Int) : Prop := l.length = 256 ∧ val (l.take 4) = ssum (l.drop 4) ∧ val ((l.drop 15).take 5) = 0 ∧ sealMay (val ((l.drop 4).take 1)) (val ((l.drop 6).take 2)) (val ((l.drop 8).take 2)) (val ((l.drop 5).take 1)) (val ((l.drop 10).take 5)) = true
instance (l : List Int) : Decidable (openOk l) := by unfold openOk; infer_instance
def openR (l : List Int) : Int × Int × Int × Int × Int × List Int × Int :=
  if openOk l then (val ((l.drop 4).take 1), val ((l.drop 6).take 2), val ((l.drop 8).take 2), val ((l.drop 5).take 1), val ((l.drop 10).take 5), l.drop 20, 0) else (0, 0, 0, 0, 0, [], 3)
theorem take_at (l : List Int) (d n : Nat) (h : d + n ≤ l.length) (h1 : 1 ≤ n) (h7 : n ≤ 7) : takeR (l.drop d) n = (val ((l.drop d).take n), l.drop (d + n), 0) := by
  unfold takeR
  rw [if_neg (by omega), if_neg (by rw [List.length_drop]; omega), Int.toNat_natCast, List.drop_drop]
theorem Open_is (l : List Int) (hb : Bytes l) (hl : l.length ≤ 1000) : seal_Open.f l = some (openR l) := by
  unfold seal_Open.f openR
  by_cases h : l.length = 256
  case neg =>
    have : ¬ openOk l := fun q => h q.1
    rw [if_pos (by omega), if_neg this]
  have T : ∀ (d n : Nat), d + n ≤ 256 → 1 ≤ n → n ≤ 7 → num_Take.f (l.drop d) n = some (val ((l.drop d).take n), l.drop (d + n), 0) := by
    intro d n h1 h2 h3
    rw [Take_is _ _ (hb.drop d) (by rw [List.length_drop]; omega), take_at l d n (by omega) h2 h3]
  have t0 := T 0 4 (by omega) (by omega) (by omega)
  have t1 := T 4 1 (by omega) (by omega) (by omega)
  have t2 := T 5 1 (by omega) (by omega) (by omega)
  have t3 := T 6 2 (by omega) (by omega) (by omega)
  have t4 := T 8 2 (by omega) (by omega) (by omega)
  have t5 := T 10 5 (by omega) (by omega) (by omega)
  have t6 := T 15 5 (by omega) (by omega) (by omega)
  rw [List.drop_zero] at t0
  have hs := ssum_range (l.drop 4)
  rw [if_neg (by omega)]
  simp only [show ((4 : Int)) = ((4 : Nat) : Int) from rfl, show ((1 : Int)) = ((1 : Nat) : Int) from rfl, show ((2 : Int)) = ((2 : Nat) : Int) from rfl, show ((5 : Int)) = ((5 : Nat) : Int) from rfl, t0, t1, t2, t3, t4, t5, t6, Option.bind_some, sum_is, Nat.zero_add, Nat.reduceAdd]
  rw [w64_small (by omega) (by omega)]
  by_cases ho : openOk l
  · rw [if_pos ho, if_pos ⟨ho.2.2.1, ho.2.1, ho.2.2.2⟩]
  · rw [if_neg ho, if_neg (fun q => ho ⟨h, q.2.1, q.1, q.2.2⟩)]
theorem digits_val (l : List Int) (h : Bytes l) : digits (val l) l.length = l := by
  induction l using snoc_ind with
  | h0 => rfl
  | h1 l c ih =>
    have hc := h c (by simp)
    have hl : Bytes l := fun x hx => h x (by simp [hx])
    rw [val_snoc, List.length_append, List.length_singleton, digits, show (256 * val l + c) / 256 = val l by omega, show (256 * val l + c) % 256 = c by omega, ih hl]
theorem dig_at (l : List Int) (d n : Nat) (h : d + n ≤ l.length) (hb : Bytes l) : digits (val ((l.drop d).take n)) n = (l.drop d).take n := by
  have := digits_val ((l.drop d).take n) ((hb.drop d).take n)
  rwa [show ((l.drop d).take n).length = n by rw [List.length_take, List.length_drop]; omega] at this
theorem cut_at (l : List Int) (d n : Nat) : (l.drop d).take n ++ l.drop (d + n) = l.drop d := by
  have := List.take_append_drop n (l.drop d)
  rwa [List.drop_drop] at this
/-- The block behind its sum, in digits. -/
theorem row_dig (a0 a1 a2 a3 a4 : Int) (l : List Int) (hm : sealMay a0 a1 a2 a3 a4 = true) :
    sealRow a0 a1 a2 a3 a4 l = digits a0 1 ++ (digits a3 1 ++ (digits a1 2 ++ (digits a2 2 ++ (digits a4 5 ++ (List.replicate 5 0 ++ (l ++ List.replicate (236 - l.length) 0)))))) := by
  have h := (may_iff a0 a1 a2 a3 a4).1 hm
  unfold sealRow sealHead
  rw [eights_dig a0 1 (by omega) (by omega) (by omega), eights_dig a3 1 (by omega) (by omega) (by omega), eights_dig a1 2 (by omega) (by omega) (by omega), eights_dig a2 2 (by omega) (by omega) (by omega), eights_dig a4 5 (by omega) (by omega) (by omega)]
  simp only [List.append_assoc]
theorem digits_zero5 : digits 0 5 = List.replicate 5 0 := by decide +kernel
/-- What is opened is sealed as the same bytes. -/
theorem open_seal (l : List Int) (hb : Bytes l) (ho : openOk l) : sealR (val ((l.drop 4).take 1)) (val ((l.drop 6).take 2)) (val ((l.drop 8).take 2)) (val ((l.drop 5).take 1)) (val ((l.drop 10).take 5)) (l.drop 20) = (l, 0) := by
  obtain ⟨h, h1, h2, h3⟩ := ho
  have hl : (l.drop 20).length = 236 := by rw [List.length_drop]; omega
  have hrow : sealRow (val ((l.drop 4).take 1)) (val ((l.drop 6).take 2)) (val ((l.drop 8).take 2)) (val ((l.drop 5).take 1)) (val ((l.drop 10).take 5)) (l.drop 20) = l.drop 4 := by
    have d6 := dig_at l 15 5 (by omega) hb
    rw [h2, digits_zero5] at d6
    rw [row_dig _ _ _ _ _ _ h3, dig_at l 4 1 (by omega) hb, dig_at l 5 1 (by omega) hb, dig_at l 6 2 (by omega) hb, dig_at l 8 2 (by omega) hb, dig_at l 10 5 (by omega) hb, d6, hl, Nat.sub_self, List.replicate_zero, List.append_nil,
      cut_at l 15 5, cut_at l 10 5, cut_at l 8 2, cut_at l 6 2, cut_at l 5 1, cut_at l 4 1]
  unfold sealR
  rw [if_neg (by rw [h3]; decide), if_neg (by omega), hrow, ← h1]
  have d0 := dig_at l 0 4 (by omega) hb
  rw [List.drop_zero] at d0
  rw [d0, List.take_append_drop]
theorem cut2 (x y : List Int) (n : Nat) (h : x.length = n) : (x ++ y).take n = x ∧ (x ++ y).drop n = y := by
  subst h
  exact ⟨List.take_left, List.drop_left⟩
theorem val_dig (a : Int) (n : Nat) (h0 : 0 ≤ a) (h1 : a < 256 ^ n) : val (digits a n) = a := by rw [val_digits, Int.emod_eq_of_lt h0 h1]
/-- The block. -/
def block (a0 a1 a2 a3 a4 : Int) (l : List Int) : List Int := digits (ssum (sealRow a0 a1 a2 a3 a4 l)) 4 ++ sealRow a0 a1 a2 a3 a4 l
theorem sealR_ok (a0 a1 a2 a3 a4 : Int) (l : List Int) (hm : sealMay a0 a1 a2 a3 a4 = true) (hl : l.length ≤ 236) : sealR a0 a1 a2 a3 a4 l = (block a0 a1 a2 a3 a4 l, 0) := by
  unfold sealR block
  rw [if_neg (by rw [hm]; decide), if_neg (by omega)]
theorem sealR_no (a0 a1 a2 a3 a4 : Int) (l : List Int) (h : ¬ (sealMay a0 a1 a2 a3 a4 = true ∧ l.length ≤ 236)) : (sealR a0 a1 a2 a3 a4 l).1 = [] ∧ (sealR a0 a1 a2 a3 a4 l).2 ≠ 0 := by
  unfold sealR
  split
  · exact ⟨rfl, by show (1 : Int) ≠ 0; decide⟩
  · split
    · exact ⟨rfl, by show (7 : Int) ≠ 0; decide⟩
    · rename_i h1 h2
      exact absurd ⟨by simpa using h1, by omega⟩ h
theorem block_len (a0 a1 a2 a3 a4 : Int) (l : List Int) (hl : l.length ≤ 236) : (block a0 a1 a2 a3 a4 l).length = 256 := by
  unfold block
  rw [List.length_append, digits_length, sealRow_len _ _ _ _ _ _ hl]
theorem zeros_bytes (n : Nat) : Bytes (List.replicate n 0) := fun x hx => by rw [List.eq_of_mem_replicate hx]; decide
theorem block_bytes (a0 a1 a2 a3 a4 : Int) (l : List Int) (hm : sealMay a0 a1 a2 a3 a4 = true) (hb : Bytes l) : Bytes (block a0 a1 a2 a3 a4 l) := by
  unfold block
  rw [row_dig _ _ _ _ _ _ hm]
  exact (digits_bytes _ _).append ((digits_bytes _ _).append ((digits_bytes _ _).append ((digits_bytes _ _).append ((digits_bytes _ _).append ((digits_bytes _ _).append ((zeros_bytes _).append (hb.append (zeros_bytes _))))))))
/-- What was sealed is opened as it was, with noughts behind. -/
theorem seal_open (a0 a1 a2 a3 a4 : Int) (l : List Int) (hm : sealMay a0 a1 a2 a3 a4 = true) (hl : l.length ≤ 236) : openR (block a0 a1 a2 a3 a4 l) = (a0, a1, a2, a3, a4, l ++ List.replicate (236 - l.length) 0, 0) := by
  have hlen := block_len a0 a1 a2 a3 a4 l hl
  have h := (may_iff a0 a1 a2 a3 a4).1 hm
  have hs := ssum_range (sealRow a0 a1 a2 a3 a4 l)
  generalize hB : block a0 a1 a2 a3 a4 l = b at *
  unfold block at hB
  have c0 := cut2 (digits (ssum (sealRow a0 a1 a2 a3 a4 l)) 4) (sealRow a0 a1 a2 a3 a4 l) 4 (digits_length _ _)
  rw [hB] at c0
  have D4 := c0.2
  rw [row_dig _ _ _ _ _ _ hm] at D4
  have c1 := cut2 (digits a0 1) (digits a3 1 ++ (digits a1 2 ++ (digits a2 2 ++ (digits a4 5 ++ (List.replicate 5 0 ++ (l ++ List.replicate (236 - l.length) 0)))))) 1 (digits_length _ _)
  rw [← D4, List.drop_drop] at c1
  have c2 := cut2 (digits a3 1) (digits a1 2 ++ (digits a2 2 ++ (digits a4 5 ++ (List.replicate 5 0 ++ (l ++ List.replicate (236 - l.length) 0))))) 1 (digits_length _ _)
  rw [← c1.2, List.drop_drop] at c2
  have c3 := cut2 (digits a1 2) (digits a2 2 ++ (digits a4 5 ++ (List.replicate 5 0 ++ (l ++ List.replicate (236 - l.length) 0)))) 2 (digits_length _ _)
  rw [← c2.2, List.drop_drop] at c3
  have c4 := cut2 (digits a2 2) (digits a4 5 ++ (List.replicate 5 0 ++ (l ++ List.replicate (236 - l.length) 0))) 2 (digits_length _ _)
  rw [← c3.2, List.drop_drop] at c4
  have c5 := cut2 (digits a4 5) (List.replicate 5 0 ++ (l ++ List.replicate (236 - l.length) 0)) 5 (digits_length _ _)
  rw [← c4.2, List.drop_drop] at c5
  have c6 := cut2 (List.replicate 5 (0 : Int)) (l ++ List.replicate (236 - l.length) 0) 5 (List.length_replicate ..)
  rw [← c5.2, List.drop_drop] at c6
  simp only [Nat.reduceAdd] at c1 c2 c3 c4 c5 c6
  have v0 : val (b.take 4) = ssum (sealRow a0 a1 a2 a3 a4 l) := by rw [c0.1]; exact val_dig _ 4 hs.1 (by show _ < 4294967296; omega)
  have v1 : val ((b.drop 4).take 1) = a0 := by rw [c1.1]; exact val_dig a0 1 (by omega) (by show a0 < 256; omega)
  have v2 : val ((b.drop 5).take 1) = a3 := by rw [c2.1]; exact val_dig a3 1 (by omega) (by show a3 < 256; omega)
  have v3 : val ((b.drop 6).take 2) = a1 := by rw [c3.1]; exact val_dig a1 2 (by omega) (by show a1 < 65536; omega)
  have v4 : val ((b.drop 8).take 2) = a2 := by rw [c4.1]; exact val_dig a2 2 (by omega) (by show a2 < 65536; omega)
  have v5 : val ((b.drop 10).take 5) = a4 := by rw [c5.1]; exact val_dig a4 5 (by omega) (by show a4 < 1099511627776; omega)
  have v6 : val ((b.drop 15).take 5) = 0 := by rw [c6.1]; decide +kernel
  have ho : openOk b := ⟨hlen, by rw [v0, c0.2], v6, by rw [v1, v2, v3, v4, v5]; exact hm⟩
  unfold openR
  rw [if_pos ho, v1, v2, v3, v4, v5, c6.2]
/-- Rows of bytes are one if their strings are. -/
theorem rows_inj {l m : List Int} (hl : Bytes l) (hm : Bytes m) : (strOfNums l).toList = (strOfNums m).toList ↔ l = m := by
  refine ⟨fun h => ?_, fun h => by rw [h]⟩
  have e : ∀ q : List Int, (strOfNums q).toList = q.map (fun n : Int => UInt8.ofNat n.toNat) := fun q => by rw [Lib.strOfNums_toList]; rfl
  rw [e, e] at h
  have h2 := congrArg (List.map (fun b : UInt8 => (b.toNat : Int))) h
  rw [List.map_map, List.map_map] at h2
  have key : ∀ q : List Int, Bytes q → q.map ((fun b : UInt8 => (b.toNat : Int)) ∘ fun n : Int => UInt8.ofNat n.toNat) = q := by
    intro q hq
    conv => rhs; rw [← List.map_id q]
    apply List.map_congr_left
    intro x hx
    have := hq x hx
    simp
    omega
  rw [key l hl, key m hm] at h2
  exact h2
/-- What is opened is what was sealed: one form. -/
theorem open_iff (l : List Int) (hb : Bytes l) : (openR l).2.2.2.2.2.2 = 0 ↔ openOk l := by
  unfold openR
  by_cases h : openOk l
  · rw [if_pos h]; exact ⟨fun _ => h, fun _ => rfl⟩
  · rw [if_neg h]; exact ⟨fun q => (by cases q), fun q => absurd q h⟩
theorem get_split (l : List Int) (i : Nat) (h : i < l.length) : l = l.take i ++ l[i] :: l.drop (i + 1) := by
  conv => lhs; rw [← List.take_append_drop i l]
  rw [List.drop_eq_getElem_cons h]
theorem set_split (l : List Int) (i : Nat) (h : i < l.length) (x : Int) : l.set i x = l.take i ++ x :: l.drop (i + 1) := by
  rw [List.set_eq_take_append_cons_drop, if_pos h]
theorem byte_inj (x y : Int) (hx : 0 ≤ x ∧ x < 256) (hy : 0 ≤ y ∧ y < 256) (h : BitVec.ofInt 32 x = BitVec.ofInt 32 y) : x = y := by
  have h2 := congrArg Crc.num h
  rwa [Crc.num_of x hx.1 (by omega), Crc.num_of y hy.1 (by omega)] at h2
/-- A sum tells a byte that is turned. -/
theorem ssum_turned (l : List Int) (i : Nat) (h : i < l.length) (x : Int) (hb : Bytes l) (hx : 0 ≤ x ∧ x < 256) (hs : ssum (l.set i x) = ssum l) : x = l[i] := by
  unfold ssum at hs
  have h1 := Crc.num_inj _ _ hs
  have e : SumLem.bv l = SumLem.bv (l.take i) ++ BitVec.ofInt 32 l[i] :: SumLem.bv (l.drop (i + 1)) := by
    conv => lhs; rw [get_split l i h]
    rw [SumLem.bv_append]
    rfl
  rw [set_split l i h, SumLem.bv_append, e] at h1
  exact byte_inj _ _ hx (hb _ (List.getElem_mem h)) (Crc.crc_turned 0#32 _ _ _ _ h1)
/-- A block of which one byte is turned is none. -/
theorem turned_no (b : List Int) (hb : Bytes b) (ho : openOk b) (i : Nat) (hi : i < b.length) (x : Int) (hx : 0 ≤ x ∧ x < 256) (hne : x ≠ b[i]) : ¬ openOk (b.set i x) := by
  rintro ⟨_, h1, _⟩
  obtain ⟨hl, h2, _⟩ := ho
  have hbs : Bytes (b.set i x) := fun z hz => by
    rcases List.mem_or_eq_of_mem_set hz with h | h
    · exact hb z h
    · rw [h]; exact hx
  by_cases h4 : i < 4
  · rw [List.drop_set_of_lt h4, ← h2] at h1
    have d1 := digits_val _ (hbs.take 4)
    have d2 := digits_val _ (hb.take 4)
    rw [show ((b.set i x).take 4).length = 4 by rw [List.length_take, List.length_set]; omega, h1] at d1
    rw [show (b.take 4).length = 4 by rw [List.length_take]; omega] at d2
    have e := d1.symm.trans d2
    have e2 := congrArg (fun q : List Int => q[i]?) e
    simp only [List.getElem?_take, if_pos h4, List.getElem?_set_self hi, List.getElem?_eq_getElem hi] at e2
    exact hne (Option.some.inj e2)
  · have e1 : (b.set i x).take 4 = b.take 4 := List.take_set_of_le (by omega)
    have e2 : (b.set i x).drop 4 = (b.drop 4).set (i - 4) x := by rw [List.drop_set, if_neg h4]
    rw [e1, h2, e2] at h1
    have hj : i - 4 < (b.drop 4).length := by rw [List.length_drop]; omega
    have := ssum_turned (b.drop 4) (i - 4) hj x (hb.drop 4) hx h1.symm
    rw [List.getElem_drop] at this
    apply hne
    rw [this]
    congr 1
    omega
/-- A byte turned by a byte that is not nought is another byte. -/
theorem turned_ne (c d : Int) (hc : 0 ≤ c ∧ c < 256) (hd : 0 ≤ d ∧ d < 256) (hne : d ≠ 0) : (0 ≤ Go.bits .xor .u8 c d ∧ Go.bits .xor .u8 c d < 256) ∧ Go.bits .xor .u8 c d ≠ c := by
  have h3 := (BitVec.ofInt 8 c ^^^ BitVec.ofInt 8 d).isLt
  have e : Go.bits .xor .u8 c d = ((BitVec.ofInt 8 c ^^^ BitVec.ofInt 8 d).toNat : Int) := by
    show IntKind.u8.wrap ((BitVec.ofInt 8 c ^^^ BitVec.ofInt 8 d).toNat : Int) = _
    rw [IntKind.wrap_u8]
    omega
  refine ⟨by rw [e]; omega, fun h => ?_⟩
  rw [e] at h
  have h4 : (BitVec.ofInt 8 c ^^^ BitVec.ofInt 8 d).toNat = (BitVec.ofInt 8 c).toNat := by
    have : (BitVec.ofInt 8 c).toNat = c.toNat := by rw [BitVec.toNat_ofInt]; omega
    omega
  have h5 : BitVec.ofInt 8 c ^^^ BitVec.ofInt 8 d = BitVec.ofInt 8 c := BitVec.eq_of_toNat_eq h4
  have h6 : BitVec.ofInt 8 d = 0#8 := by
    have := congrArg (fun x => BitVec.ofInt 8 c ^^^ x) h5
    simpa [← BitVec.xor_assoc] using this
  have h7 := congrArg BitVec.toNat h6
  rw [BitVec.toNat_ofInt] at h7
  simp at h7
  omega
theorem openR_no (l : List Int) (h : ¬ openOk l) : openR l = (0, 0, 0, 0, 0, [], 3) := by
  unfold openR
  rw [if_neg h]
end Go.Proofs.Ytjpebckmjlmkmaa.SealLem
