/- A stream, taken: what is one, and what it says. -/
import Derived.Test.YtgklipfeheohkaaDoorStreamT
import Derived.Lib.Bytes
import Derived.Test.YtgklipfeheohkaaDoorPx11
namespace Go.Proofs.YtgklipfeheohkaaDoor.P
open Go.RowKit Go.Proofs.YtgklipfeheohkaaDoorW.PrintWords Go.Proofs.YtgklipfeheohkaaDoorW.PrintLast Go.Proofs.YtgklipfeheohkaaDoorW.PrintMore Go.Proofs.YtgklipfeheohkaaDoor.NumLem
set_option linter.unusedVariables false
set_option linter.unusedSimpArgs false
/-- Rows of bytes are one if their strings are. -/
theorem rows_inj {l m : List Int} (hl : Bytes l) (hm : Bytes m) : (strOfNums l).toList = (strOfNums m).toList ↔ l = m := by
  refine ⟨fun h => ?_, fun h => by rw [h]⟩
  have e : ∀ q : List Int, (strOfNums q).toList = q.map (fun n : Int => UInt8.ofNat n.toNat) := fun q => by rw [Lib.strOfNums_toList]; rfl
  rw [e, e] at h
  have h2 := congrArg (List.map (fun b : UInt8 => (b.toNat : Int))) h
  rw [List.map_map, List.map_map] at h2
  have key : ∀ q : List Int, Bytes q → q.map ((fun b : UInt8 => (b.toNat : Int)) ∘ fun n : Int => UInt8.ofNat n.toNat) = q := by
    intro q hq
    conv => rhs; rw [← List.map_id q]
    apply List.map_congr_left
    intro x hx
    have := hq x hx
    simp
    omega
  rw [key l hl, key m hm] at h2
  exact h2
theorem rows_inj2 {l m : List Int} (hl : Bytes l) (hm : Bytes m) : strOfNums l = strOfNums m ↔ l = m := by
  refine ⟨fun h => (rows_inj hl hm).1 (by rw [h]), fun h => by rw [h]⟩
/-- Records that may be. -/
def Recs (l : List S37) : Prop := ∀ r ∈ l, Good r ∧ Bytes r.f4
theorem Recs.cons {r : S37} {l : List S37} (h : Recs (r :: l)) : (Good r ∧ Bytes r.f4) ∧ Recs l := ⟨h r (by simp), fun x hx => h x (List.mem_cons_of_mem _ hx)⟩
theorem flatB_bytes : ∀ (l : List S37), Recs l → Bytes (flatB l)
  | [], _ => Bytes.nil
  | r :: l, h => by
    rw [flatB_cons]
    exact (recB_bytes h.cons.1.2).append (flatB_bytes l h.cons.2)
theorem recB_pos (r : S37) : 1 ≤ (recB r).length := by
  unfold recB
  simp only [List.length_append, List.length_singleton]
  omega
theorem flatB_pos : ∀ (l : List S37), l.length ≤ (flatB l).length
  | [] => Nat.zero_le _
  | r :: l => by
    rw [flatB_cons, List.length_append, List.length_cons]
    have := recB_pos r
    have := flatB_pos l
    omega
theorem loop_back : ∀ (l acc : List S37) (k : Nat), Recs l → (flatB l).length ≤ 100000 → acc.length + l.length ≤ 1000000 → l.length + 3 < k → stream_Take.l0 k (flatB l) acc = some (acc ++ l, true)
  | [], acc, k, _, _, _, hk => by
    obtain ⟨q, rfl⟩ : ∃ q, k = q + 1 := ⟨k - 1, by omega⟩
    unfold stream_Take.l0
    rw [if_neg (show ¬ 0 < (flatB []).length by decide), List.append_nil]
  | r :: l, acc, k, h, hl, ha, hk => by
    obtain ⟨q, rfl⟩ : ∃ q, k = q + 1 := ⟨k - 1, by omega⟩
    rw [List.length_cons] at ha hk
    have hp := recB_pos r
    rw [flatB_cons, List.length_append] at hl
    have ih := loop_back l (acc ++ [r]) q h.cons.2 (by omega) (by rw [List.length_append, List.length_singleton]; omega) (by omega)
    unfold stream_Take.l0
    rw [flatB_cons, if_pos (by rw [List.length_append]; omega), if_pos (by omega), rec_back q (by omega) r h.cons.1.1 h.cons.1.2 (flatB l) (flatB_bytes l h.cons.2) (by omega), Option.bind_some]
    simp only [if_true]
    rw [ih, List.append_assoc, List.singleton_append]
theorem loop_form : ∀ (k : Nat) (x : List Int) (acc : List S37), Bytes x → x.length ≤ 100000 → acc.length + x.length ≤ 1000000 → x.length + 3 < k →
    ∃ u, stream_Take.l0 k x acc = some u ∧ (u.2 = true → ∃ l, u.1 = acc ++ l ∧ Recs l ∧ x = flatB l)
  | 0, _, _, _, _, _, h => absurd h (Nat.not_lt_zero _)
  | k + 1, x, acc, hb, hl, ha, hk => by
    unfold stream_Take.l0
    by_cases h0 : 0 < x.length
    · obtain ⟨t, ht, h1, h2, h3⟩ := rec_form k (by omega) x hb h0 hl
      rw [if_pos h0, if_pos (by omega), ht, Option.bind_some]
      by_cases hf : recFlag t = true
      · obtain ⟨g1, g2, g3⟩ := h3 hf
        obtain ⟨u, hu, h4⟩ := loop_form k (recRest t) (acc ++ [recO t]) h2 (by omega) (by rw [List.length_append, List.length_singleton]; omega) (by omega)
        refine ⟨u, ?_, fun h => ?_⟩
        · have hf' : t.snd.snd.snd.snd.snd.snd = true := hf
          rw [if_pos hf']
          exact hu
        · obtain ⟨l, e1, e2, e3⟩ := h4 h
          refine ⟨recO t :: l, ?_, ?_, ?_⟩
          · rw [e1, List.append_assoc, List.singleton_append]
          · intro r hr
            rcases List.mem_cons.1 hr with rfl | hr
            · exact ⟨g1, g2⟩
            · exact e2 r hr
          · rw [flatB_cons, ← e3]
            exact g3
      · have hf' : ¬ t.snd.snd.snd.snd.snd.snd = true := hf
        rw [if_neg hf']
        exact ⟨_, rfl, fun h => by cases h⟩
    · rw [if_neg h0]
      refine ⟨_, rfl, fun _ => ⟨[], by simp, (fun r hr => by cases hr), List.eq_nil_of_length_eq_zero (by omega)⟩⟩
/-- A stream: of these records, with or without a base. -/
def IsS (b : List Int) (l : List S37) (base : Bool) : Prop := Recs l ∧ b = sealS (headB base ++ flatB l) ∧ b.length ≤ 65536
theorem lowB_bytes (x : Int) : Bytes (lowB x) := by
  intro z hz
  simp only [lowB, List.mem_cons, List.mem_nil_iff, or_false] at hz
  rcases hz with rfl | rfl | rfl | rfl <;> omega
theorem sealS_len (x : List Int) : (sealS x).length = x.length + 5 := by
  unfold sealS
  rw [List.length_append, List.length_append, lowB_len, List.length_singleton]
theorem headB_len (base : Bool) : (headB base).length = 3 := rfl
/-- What is a stream is taken. -/
theorem take_back2 (b : List Int) (l : List S37) (base : Bool) (h : IsS b l base) (k : Nat) (hk : 70000 ≤ k) : stream_Take.f k b = some (l, base, 0) := by
  obtain ⟨hr, hb, hl⟩ := h
  have hlen : b.length = (flatB l).length + 8 := by rw [hb, sealS_len, List.length_append, headB_len]; omega
  have hll := flatB_pos l
  have e1 : b.take (b.length - 4) = headB base ++ flatB l ++ [8] := by
    rw [hb, sealS_len]
    unfold sealS
    rw [List.take_left' (by simp only [List.length_append, List.length_singleton]; omega)]
  have e2 : b.drop (b.length - 4) = lowB (crcB (headB base ++ flatB l ++ [8])) := by
    rw [hb, sealS_len]
    unfold sealS
    rw [List.drop_left' (by simp only [List.length_append, List.length_singleton]; omega)]
  have e3 : b.take (b.length - 5) = headB base ++ flatB l := by
    rw [hb, sealS_len]
    unfold sealS
    rw [List.append_assoc, List.take_left' (by simp only [List.length_append]; omega)]
  have e4 : b = 67 :: 66 :: (if base then 1 else 0) :: (flatB l ++ 8 :: lowB (crcB (headB base ++ flatB l ++ [8]))) := by
    rw [hb]
    unfold sealS headB
    simp
  have e5 : rd b 2 = if base then 1 else 0 := by rw [e4]; rfl
  have e6 : rd b ((b.length - 5 : Nat) : Int) = 8 := by
    have h1 : b = (headB base ++ flatB l) ++ 8 :: lowB (crcB (headB base ++ flatB l ++ [8])) := by
      rw [hb]
      unfold sealS
      simp
    have h2 : b.length - 5 = (headB base ++ flatB l).length := by rw [List.length_append, headB_len]; omega
    unfold rd
    rw [Int.toNat_natCast, h2]
    conv => lhs; rw [h1]
    rw [List.getD_eq_getElem?_getD, List.getElem?_append_right (Nat.le_refl _), Nat.sub_self]
    rfl
  have e7 : (strOfNums (b.take 2)).toList = ([67, 66] : List UInt8) := by
    rw [e4]
    show (strOfNums [67, 66]).toList = _
    rw [ByteArray.toList_eq]
    decide
  unfold stream_Take.f
  rw [if_neg (by omega), if_neg (by omega), if_neg (by rw [e7]; simp), e5, if_neg (by cases base <;> decide), e6, if_neg (by decide), e1, tail_is, Option.bind_some, e2, if_neg (by simp), e3]
  rw [show (headB base ++ flatB l).drop 3 = flatB l from by rw [List.drop_left' (headB_len base)], loop_back l [] k hr (by omega) (by simp; omega) (by omega), Option.bind_some, List.nil_append]
  simp only [if_true]
  cases base <;> rfl
/-- Any bytes: a stream, or none. -/
theorem take_spec (b : List Int) (hb : Bytes b) (k : Nat) (hk : 70000 ≤ k) :
    ∃ res, stream_Take.f k b = some res ∧ ((∃ l base, IsS b l base ∧ res = (l, base, 0)) ∨ ((∀ l base, ¬ IsS b l base) ∧ res = ([], false, 26))) := by
  by_cases hs : ∃ l base, IsS b l base
  · obtain ⟨l, base, h⟩ := hs
    exact ⟨_, take_back2 b l base h k hk, Or.inl ⟨l, base, h, rfl⟩⟩
  · refine ⟨([], false, 26), ?_, Or.inr ⟨fun l base h => hs ⟨l, base, h⟩, rfl⟩⟩
    unfold stream_Take.f
    by_cases c1 : b.length < 8
    · rw [if_pos c1]
    rw [if_neg c1]
    by_cases c2 : 65536 < b.length
    · rw [if_pos c2]
    rw [if_neg c2]
    by_cases c3 : (strOfNums (b.take 2)).toList ≠ ([67, 66] : List UInt8)
    · rw [if_pos c3]
    rw [if_neg c3]
    by_cases c4 : 1 < rd b 2
    · rw [if_pos c4]
    rw [if_neg c4]
    by_cases c5 : rd b ((b.length - 5 : Nat) : Int) ≠ 8
    · rw [if_pos c5]
    rw [if_neg c5, tail_is, Option.bind_some]
    by_cases c6 : strOfNums (b.drop (b.length - 4)) ≠ strOfNums (lowB (crcB (b.take (b.length - 4))))
    · rw [if_pos c6]
    rw [if_neg c6]
    have hx : Bytes ((b.take (b.length - 5)).drop 3) := (hb.take _).drop _
    have hxl : ((b.take (b.length - 5)).drop 3).length ≤ 65536 := by rw [List.length_drop, List.length_take]; omega
    obtain ⟨u, hu, hform⟩ := loop_form k _ [] hx (by omega) (by simp only [List.length_nil]; omega) (by omega)
    rw [hu, Option.bind_some]
    by_cases hf : u.2 = true
    · exfalso
      obtain ⟨l, _, hr, he⟩ := hform hf
      have c3' : (strOfNums (b.take 2)).toList = (strOfNums [67, 66]).toList := by
        rw [show (strOfNums [67, 66]).toList = ([67, 66] : List UInt8) from by rw [ByteArray.toList_eq]; decide]
        exact Classical.byContradiction c3
      have h2 : b.take 2 = [67, 66] := (rows_inj (hb.take 2) (by intro z hz; simp at hz; omega)).1 c3'
      have h6 : b.drop (b.length - 4) = lowB (crcB (b.take (b.length - 4))) := (rows_inj2 (hb.drop _) (lowB_bytes _)).1 (Classical.byContradiction c6)
      have c5' : rd b ((b.length - 5 : Nat) : Int) = 8 := Classical.byContradiction c5
      have h8 : b.take (b.length - 4) = b.take (b.length - 5) ++ [8] := by
        rw [show b.length - 4 = (b.length - 5) + 1 from by omega, List.take_succ_eq_append_getElem (by omega)]
        congr 2
        unfold rd at c5'
        rw [Int.toNat_natCast, List.getD_eq_getElem?_getD, List.getElem?_eq_getElem (by omega)] at c5'
        exact c5'
      have h3 : b.take (b.length - 5) = (b.take (b.length - 5)).take 3 ++ flatB l := by rw [← he, List.take_append_drop]
      have h3b : (b.take (b.length - 5)).take 3 = b.take 2 ++ [rd b 2] := by
        rw [List.take_take, show min 3 (b.length - 5) = 2 + 1 from by omega, List.take_succ_eq_append_getElem (by omega)]
        congr 2
        unfold rd
        rw [show (2 : Int).toNat = 2 from rfl, List.getD_eq_getElem?_getD, List.getElem?_eq_getElem (by omega)]
        rfl
      have hrd : 0 ≤ rd b 2 ∧ rd b 2 < 256 := by
        have : rd b 2 = b[2]'(by omega) := by
          unfold rd
          rw [show (2 : Int).toNat = 2 from rfl, List.getD_eq_getElem?_getD, List.getElem?_eq_getElem (by omega)]
          rfl
        rw [this]
        exact hb _ (List.getElem_mem _)
      have hh : [67, 66] ++ [rd b 2] = headB (rd b 2 == 1) := by
        have : rd b 2 = 0 ∨ rd b 2 = 1 := by omega
        rcases this with q | q <;> rw [q] <;> rfl
      refine hs ⟨l, rd b 2 == 1, hr, ?_, by omega⟩
      have hw : b = b.take (b.length - 4) ++ b.drop (b.length - 4) := (List.take_append_drop _ _).symm
      have hP : b.take (b.length - 4) = headB (rd b 2 == 1) ++ flatB l ++ [8] := by rw [h8, h3, h3b, h2, hh]
      unfold sealS
      rw [← hP, ← h6]
      exact hw
    · rw [if_neg hf]
end Go.Proofs.YtgklipfeheohkaaDoor.P
