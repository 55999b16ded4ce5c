/- What the bodies of counts are, and what counts they are, in plain Lean. -/
import Derived.Test.YtinhiigkfabcfaaCntLaw
import Derived.Test.YtinhiigkfabcfaaNumLem
namespace Go.Proofs.Ytinhiigkfabcfaa.P
open Go.Proofs.Ytinhiigkfabcfaa.NumLem
/-- The body of sector i, the first j counts of it. -/
def bodyK (now : List Int) (i : Nat) : Nat → List Int
  | 0 => []
  | j + 1 => bodyK now i j ++ digits (getR now ((i * 118 + j : Nat) : Int)) 2
theorem bodyK_succ (now : List Int) (i j : Nat) : bodyK now i (j + 1) = bodyK now i j ++ digits (getR now ((i * 118 + j : Nat) : Int)) 2 := rfl
theorem bodyK_length (now : List Int) (i : Nat) : ∀ j, (bodyK now i j).length = 2 * j := by
  intro j
  induction j with
  | zero => rfl
  | succ j ih => unfold bodyK; rw [List.length_append, ih, digits_length]; omega
theorem bodyK_bytes (now : List Int) (i : Nat) : ∀ j, Bytes (bodyK now i j) := by
  intro j
  induction j with
  | zero => exact Bytes.nil
  | succ j ih => unfold bodyK; exact ih.append (digits_bytes _ _)
def bodyI (ar : Nat) (now : List Int) (i : Int) : List Int := if 0 ≤ i ∧ i < (ar : Int) then bodyK now i.toNat 118 else []
/-- The k-th count of a body. -/
def valK (b : List Int) (k : Nat) : Int := val ((b.drop (2 * k)).take 2)
theorem bodyK_take (now : List Int) (i k : Nat) : ∀ d, (bodyK now i (k + d)).take (2 * k) = bodyK now i k := by
  intro d
  induction d with
  | zero => exact List.take_of_length_le (by rw [Nat.add_zero, bodyK_length]; exact Nat.le_refl _)
  | succ d ih =>
    rw [show k + (d + 1) = (k + d) + 1 from by omega]
    rw [bodyK_succ, List.take_append_of_le_length (by rw [bodyK_length]; omega)]
    exact ih
theorem valK_body {now : List Int} (hn : Cnts now) (i k : Nat) (hk : k < 118) : valK (bodyK now i 118) k = getR now ((i * 118 + k : Nat) : Int) := by
  have h1 := bodyK_take now i (k + 1) (118 - (k + 1))
  rw [show k + 1 + (118 - (k + 1)) = 118 from by omega] at h1
  have h2 : (((bodyK now i 118).drop (2 * k)).take 2) = digits (getR now ((i * 118 + k : Nat) : Int)) 2 := by
    rw [show ((bodyK now i 118).drop (2 * k)).take 2 = ((bodyK now i 118).take (2 * (k + 1))).drop (2 * k) from by rw [List.drop_take, show 2 * (k + 1) - 2 * k = 2 from by omega], h1, bodyK_succ, List.drop_append_of_le_length (by rw [bodyK_length]; exact Nat.le_refl _), List.drop_of_length_le (by rw [bodyK_length]; exact Nat.le_refl _), List.nil_append]
  unfold valK
  rw [h2, val_digits]
  have := getR_range hn ((i * 118 + k : Nat) : Int)
  exact Int.emod_eq_of_lt this.1 (by omega)
/-- A body is taken in, from its k-th count on. -/
def rowR (fi n i : Nat) (b : List Int) : Nat → Nat → List Int → Option (List Int)
  | _, 0, now => some now
  | k, d + 1, now => if valK b k = 0 then rowR fi n i b (k + 1) d now else if i * 118 + k < fi ∨ n ≤ i * 118 + k then none else rowR fi n i b (k + 1) d (now.set (i * 118 + k) (valK b k))
def loadR (fi n : Nat) : Nat → List (List Int) → List Int → Option (List Int)
  | _, [], now => some now
  | i, b :: bs, now => if b.length ≠ 236 then none else (rowR fi n i b 0 118 now).bind (loadR fi n (i + 1) bs)
/-- What was laid down: equal up to place m, noughts from there. -/
structure Upto (now l : List Int) (m : Nat) : Prop where
  len : l.length = now.length
  lo : ∀ a, a < m → l.getD a 0 = now.getD a 0
  hi : ∀ a, m ≤ a → l.getD a 0 = 0
theorem getD_out (l : List Int) (a : Nat) (h : l.length ≤ a) : l.getD a 0 = 0 := by
  rw [List.getD_eq_getElem?_getD, List.getElem?_eq_none h]; rfl
theorem getD_set' (l : List Int) (i j : Nat) (v : Int) (hi : i < l.length) : (l.set i v).getD j 0 = if i = j then v else l.getD j 0 := by
  rw [List.getD_eq_getElem?_getD, List.getD_eq_getElem?_getD]
  by_cases h : i = j
  · subst h
    rw [List.getElem?_set_self hi, if_pos rfl]
    rfl
  · rw [List.getElem?_set_ne h, if_neg h]
theorem list_eq {l m : List Int} (h : l.length = m.length) (h2 : ∀ a, l.getD a 0 = m.getD a 0) : l = m := by
  apply List.ext_getElem h
  intro i h3 h4
  have := h2 i
  rw [List.getD_eq_getElem?_getD, List.getD_eq_getElem?_getD, List.getElem?_eq_getElem h3, List.getElem?_eq_getElem h4] at this
  exact this
theorem rowR_body {now : List Int} {fi n : Nat} (hn : Cnts now) (hl : now.length = n) (hlow : ∀ a, a < fi → now.getD a 0 = 0) (i : Nat) : ∀ (d k : Nat) (l : List Int), k + d = 118 → Upto now l (i * 118 + k) → ∃ l', rowR fi n i (bodyK now i 118) k d l = some l' ∧ Upto now l' (i * 118 + 118) := by
  intro d
  induction d with
  | zero => intro k l hk hu; obtain rfl : k = 118 := hk; exact ⟨l, rfl, hu⟩
  | succ d ih =>
    intro k l hk hu
    have hv := valK_body hn i k (by omega)
    unfold rowR
    by_cases h0 : valK (bodyK now i 118) k = 0
    · rw [if_pos h0]
      refine ih (k + 1) l (by omega) ⟨hu.len, fun a ha => ?_, fun a ha => hu.hi a (by omega)⟩
      by_cases h1 : a = i * 118 + k
      · subst h1
        rw [hu.hi _ (Nat.le_refl _)]
        by_cases h2 : i * 118 + k < now.length
        · rw [hv, getR_in h2] at h0; exact h0.symm
        · exact (getD_out _ _ (by omega)).symm
      · exact hu.lo a (by omega)
    · rw [if_neg h0]
      have h1 : getR now ((i * 118 + k : Nat) : Int) ≠ 0 := by rw [← hv]; exact h0
      obtain ⟨q, hq, hq2⟩ := getR_pos h1
      obtain rfl : i * 118 + k = q := by omega
      have h2 : ¬ (i * 118 + k < fi ∨ n ≤ i * 118 + k) := by
        rintro (h | h)
        · rw [getR_in hq2, hlow _ h] at h1; exact h1 rfl
        · omega
      rw [if_neg h2]
      refine ih (k + 1) _ (by omega) ⟨by rw [List.length_set]; exact hu.len, fun a ha => ?_, fun a ha => ?_⟩
      · rw [getD_set' _ _ _ _ (by rw [hu.len]; exact hq2)]
        by_cases h3 : i * 118 + k = a
        · subst h3; rw [if_pos rfl, hv, getR_in hq2]
        · rw [if_neg h3]; exact hu.lo a (by omega)
      · rw [getD_set' _ _ _ _ (by rw [hu.len]; exact hq2), if_neg (by omega)]; exact hu.hi a (by omega)
/-- All bodies from the i-th one on, m of them. -/
def bodies (now : List Int) : Nat → Nat → List (List Int)
  | _, 0 => []
  | i, m + 1 => bodyK now i 118 :: bodies now (i + 1) m
theorem bodies_length (now : List Int) : ∀ m i, (bodies now i m).length = m := by
  intro m
  induction m with
  | zero => intro i; rfl
  | succ m ih => intro i; unfold bodies; rw [List.length_cons, ih]
theorem bodies_snoc (now : List Int) : ∀ m i, bodies now i (m + 1) = bodies now i m ++ [bodyK now (i + m) 118] := by
  intro m
  induction m with
  | zero => intro i; rfl
  | succ m ih =>
    intro i
    rw [show bodies now i (m + 1 + 1) = bodyK now i 118 :: bodies now (i + 1) (m + 1) from rfl, ih, show bodies now i (m + 1) = bodyK now i 118 :: bodies now (i + 1) m from rfl, List.cons_append, show i + 1 + m = i + (m + 1) from by omega]
theorem loadR_bodies {now : List Int} {fi n : Nat} (hn : Cnts now) (hl : now.length = n) (hlow : ∀ a, a < fi → now.getD a 0 = 0) : ∀ (m i : Nat) (l : List Int), Upto now l (i * 118) → ∃ l', loadR fi n i (bodies now i m) l = some l' ∧ Upto now l' ((i + m) * 118) := by
  intro m
  induction m with
  | zero => intro i l hu; exact ⟨l, rfl, hu⟩
  | succ m ih =>
    intro i l hu
    obtain ⟨l1, h1, hu1⟩ := rowR_body hn hl hlow i 118 0 l rfl hu
    obtain ⟨l2, h2, hu2⟩ := ih (i + 1) l1 (by rw [show (i + 1) * 118 = i * 118 + 118 from by omega]; exact hu1)
    refine ⟨l2, ?_, by rw [show i + (m + 1) = i + 1 + m from by omega]; exact hu2⟩
    unfold bodies loadR
    rw [if_neg (by rw [bodyK_length]; decide), h1]
    exact h2
theorem load_back {now : List Int} {fi n : Nat} (hn : Cnts now) (hl : now.length = n) (hlow : ∀ a, a < fi → now.getD a 0 = 0) : loadR fi n 0 (bodies now 0 (areas n)) (List.replicate n 0) = some now := by
  obtain ⟨l, h, hu⟩ := loadR_bodies hn hl hlow (areas n) 0 (List.replicate n 0) ⟨by simp [hl], fun a ha => by omega, fun a _ => by rw [List.getD_eq_getElem?_getD, List.getElem?_replicate]; split <;> rfl⟩
  rw [h]
  congr 1
  refine list_eq hu.len fun a => ?_
  by_cases ha : a < (0 + areas n) * 118
  · exact hu.lo a ha
  · rw [hu.hi a (by omega)]
    exact (getD_out _ _ (by unfold areas at ha; omega)).symm
/-- No count ahead of the first sector. -/
def Low (fi : Nat) (now : List Int) : Prop := ∀ a, a < fi → now.getD a 0 = 0
theorem Low.set {fi : Nat} {now : List Int} (h : Low fi now) (a : Nat) (x : Int) (hl : a < now.length) (ha : fi ≤ a) : Low fi (now.set a x) := fun b hb => by rw [getD_set' _ _ _ _ hl, if_neg (by omega)]; exact h b hb
theorem Low.zeros (fi n : Nat) : Low fi (List.replicate n 0) := fun a _ => by rw [List.getD_eq_getElem?_getD, List.getElem?_replicate]; split <;> rfl
theorem Low.pos {fi : Nat} {now : List Int} (h : Low fi now) {i : Nat} (hi : i < now.length) (hp : getR now (i : Int) ≠ 0) : fi ≤ i := by
  rcases Nat.lt_or_ge i fi with h1 | h1
  · rw [getR_in hi, h i h1] at hp; exact absurd rfl hp
  · exact h1
theorem Low.step {fi n : Nat} {s : CS} (h : Low fi s.1) (hl : s.1.length = n) (o : OpC) : Low fi (playStep fi n s o).1 ∧ (playStep fi n s o).1.length = n := by
  unfold playStep refS unrefS allocS
  have key : ∀ x, getR s.1 o.a ≠ 0 → Low fi (s.1.set o.a.toNat x) ∧ (s.1.set o.a.toNat x).length = n := by
    intro x hx
    obtain ⟨i, hi, hi2⟩ := getR_pos hx
    rw [hi] at hx ⊢
    rw [Int.toNat_natCast]
    exact ⟨h.set i x hi2 (h.pos hi2 hx), by rw [List.length_set]; exact hl⟩
  split
  · split
    · exact ⟨h, hl⟩
    · split
      · exact ⟨h, hl⟩
      · rename_i h1 _; exact key _ h1
  · split
    · split
      · exact ⟨h, hl⟩
      · rename_i h1; exact key _ h1
    · split
      · exact ⟨h, hl⟩
      · split
        · rename_i a hs
          have := scan_le _ _ _ _ _ hs
          exact ⟨h.set a 1 (by omega) this.1, by rw [List.length_set]; exact hl⟩
        · exact ⟨h, hl⟩
theorem Low.playK {fi n : Nat} {l : List OpC} {s : CS} (h : Low fi s.1) (hl : s.1.length = n) : ∀ j, j ≤ l.length → Low fi (playK fi n l s j).1 ∧ (playK fi n l s j).1.length = n := by
  intro j
  induction j with
  | zero => intro _; exact ⟨h, hl⟩
  | succ j ih => intro hj; rw [playK_succ fi n l s j hj ⟨0, 0⟩]; have := ih (by omega); exact this.1.step this.2 _
theorem Low.playR {fi n : Nat} {l : List OpC} {s : CS} (h : Low fi s.1) (hl : s.1.length = n) : Low fi (playR fi n l s).1 := (Low.playK h hl _ (Nat.min_le_left _ _)).1
end Go.Proofs.Ytinhiigkfabcfaa.P
