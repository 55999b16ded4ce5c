/- The law StreamTurned: in plain words, and walked. -/
import Derived.Test.YtgklipfeheohkaaDoorBackW
import Derived.Test.YtgklipfeheohkaaDoorPx17
namespace Go.Proofs.YtgklipfeheohkaaDoor.P
open Go.RowKit Go.Proofs.YtgklipfeheohkaaDoorW.PrintWords Go.Proofs.YtgklipfeheohkaaDoorW.PrintLast Go.Proofs.YtgklipfeheohkaaDoorW.PrintMore Go.Proofs.YtgklipfeheohkaaDoor.NumLem
open Go.Proofs.YtgklipfeheohkaaDoor (Crc.num Crc.crc Crc.num_inj Crc.num_of Crc.num_lt Crc.crc_turned)
set_option linter.unusedVariables false
set_option linter.unusedSimpArgs false
theorem get_split (l : List Int) (i : Nat) (h : i < l.length) : l = l.take i ++ l[i] :: l.drop (i + 1) := by
  conv => lhs; rw [← List.take_append_drop i l]
  rw [List.drop_eq_getElem_cons h]
theorem set_split (l : List Int) (i : Nat) (h : i < l.length) (x : Int) : l.set i x = l.take i ++ x :: l.drop (i + 1) := by
  rw [List.set_eq_take_append_cons_drop, if_pos h]
theorem byte_inj (x y : Int) (hx : 0 ≤ x ∧ x < 256) (hy : 0 ≤ y ∧ y < 256) (h : BitVec.ofInt 32 x = BitVec.ofInt 32 y) : x = y := by
  have h2 := congrArg Crc.num h
  rwa [Crc.num_of x hx.1 (by omega), Crc.num_of y hy.1 (by omega)] at h2
theorem crc_set (l : List Int) (i : Nat) (h : i < l.length) (x : Int) (hb : Bytes l) (hx : 0 ≤ x ∧ x < 256) (hs : crcB (l.set i x) = crcB l) : x = l[i] := by
  unfold crcB at hs
  have h1 := Crc.num_inj _ _ hs
  have e : SumLem.bv l = SumLem.bv (l.take i) ++ BitVec.ofInt 32 l[i] :: SumLem.bv (l.drop (i + 1)) := by
    conv => lhs; rw [get_split l i h]
    rw [SumLem.bv_append]
    rfl
  rw [set_split l i h, SumLem.bv_append, e] at h1
  exact byte_inj _ _ hx (hb _ (List.getElem_mem h)) (Crc.crc_turned 0#32 _ _ _ _ h1)
theorem lowB_inj (x y : Int) (hx : 0 ≤ x ∧ x < 4294967296) (hy : 0 ≤ y ∧ y < 4294967296) (h : lowB x = lowB y) : x = y := by
  unfold lowB at h
  simp only [List.cons.injEq, and_true] at h
  omega
theorem seal_parts (b : List Int) (l : List S37) (base : Bool) (h : IsS b l base) : 8 ≤ b.length ∧ b.drop (b.length - 4) = lowB (crcB (b.take (b.length - 4))) := by
  obtain ⟨hr, hb, h1⟩ := h
  have hlen : b.length = (headB base ++ flatB l).length + 5 := by rw [hb, sealS_len]
  refine ⟨by rw [hlen, List.length_append, headB_len]; omega, ?_⟩
  rw [hb, sealS_len]
  unfold sealS
  rw [List.take_left' (by simp only [List.length_append, List.length_singleton]; omega), List.drop_left' (by simp only [List.length_append, List.length_singleton]; omega)]
theorem turned_none (b : List Int) (hb : Bytes b) (l : List S37) (base : Bool) (h : IsS b l base) (i : Nat) (hi : i < b.length) (x : Int) (hx : 0 ≤ x ∧ x < 256) (hne : x ≠ b[i]) : ∀ l' base', ¬ IsS (b.set i x) l' base' := by
  intro l' base' h'
  obtain ⟨q1, q2⟩ := seal_parts _ _ _ h
  obtain ⟨_, q3⟩ := seal_parts _ _ _ h'
  rw [List.length_set] at q3
  by_cases h4 : i < b.length - 4
  · rw [List.drop_set_of_lt h4, q2, List.take_set] at q3
    have e := lowB_inj _ _ (Crc.num_lt _) (Crc.num_lt _) q3
    have hj : i < (b.take (b.length - 4)).length := by rw [List.length_take]; omega
    have := crc_set (b.take (b.length - 4)) i hj x (hb.take _) hx e.symm
    rw [List.getElem_take] at this
    exact hne this
  · have e : (b.set i x).take (b.length - 4) = b.take (b.length - 4) := List.take_set_of_le (by omega)
    rw [e, ← q2] at q3
    have e2 := congrArg (fun q : List Int => q[i - (b.length - 4)]?) q3
    simp only [List.getElem?_drop] at e2
    rw [show b.length - 4 + (i - (b.length - 4)) = i from by omega, List.getElem?_set_self hi, List.getElem?_eq_getElem hi] at e2
    exact hne (Option.some.inj e2)
/-- Where the records end is told. -/
theorem pre_free : ∀ (l l' : List S37) (A B : List Int), Recs l → Recs l' → Bytes A → Bytes B → (flatB l ++ 8 :: A).length ≤ 100000 → flatB l ++ 8 :: A = flatB l' ++ 8 :: B → A = B
  | [], [], A, B, _, _, _, _, _, h => by
    have : (8 : Int) :: A = 8 :: B := h
    exact (List.cons.inj this).2
  | [], r :: l', A, B, _, hr, _, _, _, h => by
    exfalso
    have h1 := (hr.cons.1.1).kind
    have : (8 : Int) :: A = recB r ++ flatB l' ++ 8 :: B := by rw [← flatB_cons]; exact h
    have h2 : (8 : Int) = r.f0 % 256 := (List.cons.inj this).1
    omega
  | r :: l, [], A, B, hr, _, _, _, _, h => by
    exfalso
    have h1 := (hr.cons.1.1).kind
    have : recB r ++ flatB l ++ 8 :: A = (8 : Int) :: B := by rw [← flatB_cons]; exact h
    have h2 : r.f0 % 256 = (8 : Int) := (List.cons.inj this).1
    omega
  | r :: l, r' :: l', A, B, hr, hr', hA, hB, hl, h => by
    have b8 : ∀ {X : List Int}, Bytes X → Bytes (8 :: X) := fun hX z hz => by
      rcases List.mem_cons.1 hz with rfl | hz
      · omega
      · exact hX z hz
    have bA : Bytes (flatB l ++ 8 :: A) := (flatB_bytes l hr.cons.2).append (b8 hA)
    have bB : Bytes (flatB l' ++ 8 :: B) := (flatB_bytes l' hr'.cons.2).append (b8 hB)
    have e1 : flatB (r :: l) ++ 8 :: A = recB r ++ (flatB l ++ 8 :: A) := by rw [flatB_cons, List.append_assoc]
    have e2 : flatB (r' :: l') ++ 8 :: B = recB r' ++ (flatB l' ++ 8 :: B) := by rw [flatB_cons, List.append_assoc]
    have hl2 := hl
    rw [h, e2, List.length_append] at hl2
    rw [e1, List.length_append] at hl
    rw [e1, e2] at h
    have t1 := rec_back 3 (by decide) r hr.cons.1.1 hr.cons.1.2 _ bA (by omega)
    have t2 := rec_back 3 (by decide) r' hr'.cons.1.1 hr'.cons.1.2 _ bB (by omega)
    rw [h, t2] at t1
    have t3 : flatB l' ++ 8 :: B = flatB l ++ 8 :: A := by
      have := Option.some.inj t1
      simp only [Prod.mk.injEq] at this
      exact this.2.2.2.2.2.1
    exact pre_free l l' A B hr.cons.2 hr'.cons.2 hA hB (by omega) t3.symm
/-- No stream goes on as another. -/
theorem no_longer (b X : List Int) (hX : X ≠ []) (hbX : Bytes X) (hl : (b ++ X).length ≤ 70000) (l : List S37) (base : Bool) (h : IsS b l base) : ∀ l' base', ¬ IsS (b ++ X) l' base' := by
  intro l' base' h'
  obtain ⟨hr, hb, _⟩ := h
  obtain ⟨hr', hb', _⟩ := h'
  have e1 : b ++ X = headB base ++ (flatB l ++ 8 :: (lowB (crcB (headB base ++ flatB l ++ [8])) ++ X)) := by
    rw [hb]
    unfold sealS
    simp only [List.append_assoc, List.singleton_append, List.cons_append, List.nil_append]
  have e2 : b ++ X = headB base' ++ (flatB l' ++ 8 :: lowB (crcB (headB base' ++ flatB l' ++ [8]))) := by
    rw [hb']
    unfold sealS
    simp only [List.append_assoc, List.singleton_append, List.cons_append, List.nil_append]
  have hl3 : (flatB l ++ 8 :: (lowB (crcB (headB base ++ flatB l ++ [8])) ++ X)).length ≤ (b ++ X).length := by
    rw [e1]
    simp only [List.length_append]
    omega
  have e3 := e1.symm.trans e2
  have e4 := (List.append_inj e3 (by rw [headB_len, headB_len])).2
  have e5 := pre_free l l' _ _ hr hr' ((lowB_bytes _).append hbX) (lowB_bytes _) (by omega) e4
  have e6 := congrArg List.length e5
  rw [List.length_append, lowB_len, lowB_len] at e6
  exact hX (List.eq_nil_of_length_eq_zero (by omega))
theorem turned_ne (c d : Int) (hc : 0 ≤ c ∧ c < 256) (hd : 0 ≤ d ∧ d < 256) (hne : d ≠ 0) : (0 ≤ Go.bits .xor .u8 c d ∧ Go.bits .xor .u8 c d < 256) ∧ Go.bits .xor .u8 c d ≠ c := by
  have h3 := (BitVec.ofInt 8 c ^^^ BitVec.ofInt 8 d).isLt
  have e : Go.bits .xor .u8 c d = ((BitVec.ofInt 8 c ^^^ BitVec.ofInt 8 d).toNat : Int) := by
    show IntKind.u8.wrap ((BitVec.ofInt 8 c ^^^ BitVec.ofInt 8 d).toNat : Int) = _
    rw [IntKind.wrap_u8]
    omega
  refine ⟨by rw [e]; omega, fun h => ?_⟩
  rw [e] at h
  have h4 : (BitVec.ofInt 8 c ^^^ BitVec.ofInt 8 d).toNat = (BitVec.ofInt 8 c).toNat := by
    have : (BitVec.ofInt 8 c).toNat = c.toNat := by rw [BitVec.toNat_ofInt]; omega
    omega
  have h5 : BitVec.ofInt 8 c ^^^ BitVec.ofInt 8 d = BitVec.ofInt 8 c := BitVec.eq_of_toNat_eq h4
  have h6 : BitVec.ofInt 8 d = 0#8 := by
    have := congrArg (fun x => BitVec.ofInt 8 c ^^^ x) h5
    simpa [← BitVec.xor_assoc] using this
  have h7 := congrArg BitVec.toNat h6
  rw [BitVec.toNat_ofInt] at h7
  simp at h7
  omega
theorem none_is (b : List Int) (hb : Bytes b) (k : Nat) (hk : 70000 ≤ k) (h : ∀ l base, ¬ IsS b l base) : stream_Take.f k b = some ([], false, 26) := by
  obtain ⟨res, h1, h2 | h2⟩ := take_spec b hb k hk
  · obtain ⟨l, base, h3, _⟩ := h2
    exact absurd h3 (h l base)
  · rw [h1, h2.2]
theorem turned_j1 (b : List Int) (hb : Bytes b) (l : List S37) (base : Bool) (h : IsS b l base) (x : Int) (hx : 0 ≤ x ∧ x < 256) (i : Nat) (hi : i < b.length) (k : Nat) (hk : 80000 ≤ k) :
    cambiumlaw19_StreamTurned.j1 (k + 1) x true b (i : Int) = some true := by
  have hl := h.2.2
  have hbx : Bytes [x] := fun z hz => by rw [List.mem_singleton.1 hz]; exact hx
  have hset : ∀ y : Int, (0 ≤ y ∧ y < 256) → Bytes (b.set i y) := fun y hy z hz => by
    rcases List.mem_or_eq_of_mem_set hz with h | h
    · exact hb z h
    · rw [h]; exact hy
  have hbi := hb _ (List.getElem_mem hi)
  have hrd : rd b (i : Int) = b[i] := by
    unfold rd
    rw [Int.toNat_natCast, List.getD_eq_getElem?_getD, List.getElem?_eq_getElem hi]
    rfl
  have s1 : ∀ l' base', ¬ IsS (b.take i) l' base' := fun l' base' h' => by
    have e : b.take i ++ b.drop i = b := List.take_append_drop _ _
    have := no_longer (b.take i) (b.drop i) (fun q => by have := congrArg List.length q; rw [List.length_drop] at this; simp at this; omega) (hb.drop i) (by rw [e]; omega) l' base' h' l base
    rw [e] at this
    exact this h
  have s2 : ∀ l' base', ¬ IsS (b ++ [x]) l' base' := no_longer b [x] (by simp) hbx (by rw [List.length_append, List.length_singleton]; omega) l base h
  have t1 := none_is _ (hb.take i) k (by omega) s1
  have t2 := none_is _ (hb.append hbx) k (by omega) s2
  have t3 : ∀ d : Int, (0 ≤ d ∧ d < 256) → d ≠ 0 → stream_Take.f k (b.set i (Go.bits .xor .u8 (b[i]) d)) = some ([], false, 26) := fun d hd h0 => by
    obtain ⟨q1, q2⟩ := turned_ne b[i] d hbi hd h0
    exact none_is _ (hset _ q1) k (by omega) (turned_none b hb l base h i hi _ q1 q2)
  simp only [cambiumlaw19_StreamTurned.j1, Int.toNat_natCast, hrd, Option.bind_some, List.nil_append, List.length_nil, Nat.zero_add, t1, t2]
  rw [if_pos (Int.natCast_nonneg i), if_pos (by omega), if_pos (by omega), if_pos (by omega)]
  by_cases hx0 : x = 0
  · rw [if_pos hx0, if_pos (by omega), t3 1 (by omega) (by decide), Option.bind_some]
    rfl
  · rw [if_neg hx0, if_pos (by omega), t3 x hx hx0, Option.bind_some]
    rfl
theorem turn_at (a : Int) (n : Nat) (ha : -9223372036854775808 ≤ a ∧ a ≤ 9223372036854775807) (hn : 0 < n) (hn2 : n ≤ 65536) :
    ∃ i : Nat, i < n ∧ (Int.tmod a (n : Int) < 0 → wrap64 (-(Int.tmod a (n : Int))) = (i : Int)) ∧ (¬ Int.tmod a (n : Int) < 0 → Int.tmod a (n : Int) = (i : Int)) := by
  have h1 : Int.tmod a (n : Int) < n := Int.tmod_lt_of_pos a (by omega)
  have h2 : -(n : Int) < Int.tmod a (n : Int) := by
    have := Int.tmod_lt_of_pos (-a) (b := (n : Int)) (by omega)
    rw [Int.neg_tmod] at this
    omega
  refine ⟨(Int.tmod a (n : Int)).natAbs, by omega, fun h => ?_, fun h => by omega⟩
  unfold wrap64
  omega
theorem Pure_StreamTurned (l : List S37) (a x : Int) (hl : ∀ y0_ ∈ l, ∀ y1_ ∈ y0_.f4, (Lit.int .u8 y1_).wf = true) (ha : -9223372036854775808 ≤ a ∧ a ≤ 9223372036854775807) (hx : 0 ≤ x ∧ x < 256) : ∃ k, cambiumlaw19_StreamTurned.f k l a x = some true := by
  refine ⟨300 + 3000000, ?_⟩
  have h4 := fewR_len l
  unfold cambiumlaw19_StreamTurned.f
  rw [shown_mono, Option.bind_some, few19_is l _ (by omega), Option.bind_some, put_is' (fewR l) false (by omega) _ (by omega), Option.bind_some]
  have hb := fewR_bytes hl
  generalize fewR l = m at h4 hb ⊢
  cases h : m.all goodR with
  | false =>
    rw [putS_bad m false h, if_neg (by decide)]
    simp [cambiumlaw19_StreamTurned.j0]
  | true =>
    obtain ⟨e, hi⟩ := putS_good m false (by omega) hb h
    rw [e, if_pos rfl]
    have hby : Bytes (sealS (headB false ++ flatB m)) := by
      have : Bytes (headB false) := by
        intro z hz
        simp [headB] at hz
        omega
      have h8 : Bytes [(8 : Int)] := by
        intro z hz
        simp at hz
        omega
      exact ((this.append (flatB_bytes m hi.1)).append h8).append (lowB_bytes _)
    obtain ⟨b, hbq⟩ : ∃ b, sealS (headB false ++ flatB m) = b := ⟨_, rfl⟩
    rw [hbq] at hi hby
    rw [hbq]
    have h8 := (seal_parts _ _ _ hi).1
    have h9 := hi.2.2
    obtain ⟨i, hin, q1, q2⟩ := turn_at a b.length ha (by omega) h9
    have hz : ((b.length : Int) == 0) = false := beq_eq_false_iff_ne.2 (by omega)
    simp only [hz]
    show cambiumlaw19_StreamTurned.j0 (3000299 + 1) a x true b 0 false = some true
    simp only [cambiumlaw19_StreamTurned.j0]
    rw [if_neg (by decide), if_neg (by omega)]
    by_cases hn : Int.tmod a (b.length : Int) < 0
    · rw [if_pos hn, q1 hn]
      exact turned_j1 b hby m false hi x hx i hin 3000298 (by omega)
    · rw [if_neg hn, q2 hn]
      exact turned_j1 b hby m false hi x hx i hin 3000298 (by omega)
theorem StreamTurned_law (z0A : Option Addr) (z0c : Nat) (z0l : (List S37)) (z1n : Int) (z2n : Int) (w : World) (h0 : Aside0 (z0l.length ≤ z0c ∧ Kd.C k37 w z0A z0l.length z0l ∧ (z0l.length ≤ maxLen ∧ ∀ y0_ ∈ z0l, ((Lit.int .i64 y0_.f0).wf = true ∧ y0_.f1.size ≤ maxLen ∧ y0_.f2.size ≤ maxLen ∧ (Lit.int .i64 y0_.f3).wf = true ∧ (y0_.f4.length ≤ maxLen ∧ ∀ y1_ ∈ y0_.f4, (Lit.int .u8 y1_).wf = true))))) (h1 : Aside0 ((Lit.int .i64 z1n).wf = true)) (h2 : Aside0 ((Lit.int .u8 z2n).wf = true)) (hL : Aside0 (laidMetH Tryd.prog Rows.streamTurnedRow.laid w)) (hS : Aside0 (w.ShapedOpen Tryd.prog)) :
    Calls Tryd.prog 8 #[.slice z0A z0l.length z0c, .int .i64 z1n, .int .u8 z2n] w fun e w' => e = .returned (.bool true) ∧ Below w.heap.size w w' := by
  obtain ⟨hc, hr, _, hy⟩ := h0.out
  obtain ⟨k, h⟩ := Pure_StreamTurned z0l z1n z2n (fun y hy0 => (hy y hy0).2.2.2.2.2) (SumLem.wf_i64 h1.out) (SumLem.wf_u8 h2.out)
  refine (cambiumlaw19_StreamTurned.calls k _ _ _ _ _ true w hr hc ⟨rfl⟩ h).mono ?_
  rintro e w' ⟨rfl, hb⟩
  exact ⟨rfl, hb⟩
end Go.Proofs.YtgklipfeheohkaaDoor.P
