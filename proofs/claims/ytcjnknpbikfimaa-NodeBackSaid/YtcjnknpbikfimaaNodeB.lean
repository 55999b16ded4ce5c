import Derived.Test.YtcjnknpbikfimaaNodeA
import Derived.Test.YtcjnknpbikfimaaSealPut
import Derived.Test.YtcjnknpbikfimaaPx11
/-! What writing a node answers. -/
namespace Go.Proofs.Ytcjnknpbikfimaa.NodeLem
open Go.RowKit Go.Proofs.Ytcjnknpbikfimaa.P Go.Proofs.Ytcjnknpbikfimaa.NumLem Go.Proofs.Ytcjnknpbikfimaa.SealLem Go.Proofs.YtcjnknpbikfimaaW.PrintWords Go.Proofs.YtcjnknpbikfimaaW.PrintLast
set_option linter.unusedVariables false
set_option linter.unusedSimpArgs false
def u64 (x : Int) : Int := IntKind.u64.wrap x
theorem put_u (l : List Int) (x : Int) (n : Nat) (h1 : 1 ≤ n) (h2 : n ≤ 8) : putR l x (n : Int) = l ++ digits (u64 x) n := by
  unfold putR u64
  rw [if_neg (by omega), Int.toNat_natCast]
def keyD (a : S35) : List Int := digits (u64 a.f0) 4 ++ (digits (u64 a.f1) 1 ++ digits (u64 a.f2) 4)
def itemD (x : S52) : List Int := keyD x.f0 ++ (digits (u64 (x.f1.length : Int)) 1 ++ x.f1)
def kidD (x : S57) : List Int := keyD x.f0 ++ digits (u64 x.f1) 2
theorem keyD_len (a : S35) : (keyD a).length = 9 := by unfold keyD; simp only [List.length_append, digits_length]
theorem itemD_len (x : S52) : (itemD x).length = 10 + x.f1.length := by unfold itemD; simp only [List.length_append, digits_length, keyD_len]; omega
theorem kidD_len (x : S57) : (kidD x).length = 11 := by unfold kidD; simp only [List.length_append, digits_length, keyD_len]
theorem Put_k (l : List Int) (a : S35) (hl : l.length ≤ 100000) : key_Put.f l a.f0 a.f1 a.f2 = some (l ++ keyD a) := by
  have p4 := fun q x => show putR q x 4 = q ++ digits (u64 x) 4 from put_u q x 4 (by omega) (by omega)
  have p1 := fun q x => show putR q x 1 = q ++ digits (u64 x) 1 from put_u q x 1 (by omega) (by omega)
  unfold key_Put.f keyD
  rw [Put_is _ _ _ (by omega), Option.bind_some, p4, Put_is _ _ _ (by simp only [List.length_append, digits_length]; omega), Option.bind_some, p1, Put_is _ _ _ (by simp only [List.length_append, digits_length]; omega), Option.bind_some, p4]
  simp only [List.append_assoc]
theorem put1 (q : List Int) (x : Int) : putR q x 1 = q ++ digits (u64 x) 1 := put_u q x 1 (by omega) (by omega)
theorem put2 (q : List Int) (x : Int) : putR q x 2 = q ++ digits (u64 x) 2 := put_u q x 2 (by omega) (by omega)
def itemsD (l : List S52) : List Int := (l.map itemD).flatten
def kidsD (m : List S57) : List Int := (m.map kidD).flatten
theorem itemsD_snoc (l : List S52) (i : Nat) (h : i < l.length) : itemsD (l.take (i + 1)) = itemsD (l.take i) ++ itemD (l.getD i z52) := by
  unfold itemsD
  rw [take_getD l i z52 h]
  simp
theorem kidsD_snoc (m : List S57) (i : Nat) (h : i < m.length) : kidsD (m.take (i + 1)) = kidsD (m.take i) ++ kidD (m.getD i z57) := by
  unfold kidsD
  rw [take_getD m i z57 h]
  simp
theorem kidsD_len (m : List S57) : (kidsD m).length = 11 * m.length := by
  unfold kidsD
  induction m with
  | nil => rfl
  | cons x m ih => simp only [List.map_cons, List.flatten_cons, List.length_append, kidD_len, ih, List.length_cons]; omega
theorem itemsD_len (l : List S52) (h : ∀ j, j < l.length → (l.getD j z52).f1.length ≤ 28) : (itemsD l).length ≤ 38 * l.length := by
  unfold itemsD
  induction l with
  | nil => exact Nat.le_refl _
  | cons x l ih =>
    have h0 : x.f1.length ≤ 28 := h 0 (by simp)
    have := ih (fun j hj => h (j + 1) (by simp only [List.length_cons]; omega))
    simp only [List.map_cons, List.flatten_cons, List.length_append, itemD_len, List.length_cons]; omega
theorem take_len_le (l : List S52) (n i : Nat) (h : (itemsD l).length ≤ n) : (itemsD (l.take i)).length ≤ n := by
  refine Nat.le_trans ?_ h
  conv => rhs; rw [← List.take_append_drop i l]
  unfold itemsD
  rw [List.map_append, List.flatten_append, List.length_append]
  omega
theorem item_len_le (l : List S52) (n i : Nat) (hi : i < l.length) (h : (itemsD l).length ≤ n) : (l.getD i z52).f1.length ≤ n := by
  have := take_len_le l n (i + 1) h
  rw [itemsD_snoc l i hi, List.length_append, itemD_len] at this
  omega
theorem take_klen_le (m : List S57) (i : Nat) : (kidsD (m.take i)).length ≤ 11 * m.length := by
  rw [kidsD_len, List.length_take]; omega
theorem nil_take {α β : Type} (f : α → List β) (l : List α) : (((l.take 0).map f).flatten) = [] := by simp
theorem Write_loop1 (lv : Int) (l : List S52) (m : List S57) (hm : m.length ≤ 100) (acc : List Int) (ha : acc.length ≤ 10000) (h0 h1 h2 h3 h4 : Int) (d : Nat) : ∀ k i, i + d = m.length → d < k →
    node_Write.l1 k (acc ++ kidsD (m.take i)) m (m.length : Int) (i : Int) lv l m h0 h1 h2 h3 h4 = some (sealR (if lv > 0 then 4 else h0) h1 h2 h3 h4 (acc ++ kidsD m)) := by
  induction d with
  | zero =>
    intro k i hi hk
    obtain ⟨k, rfl⟩ : ∃ q, k = q + 1 := ⟨k - 1, by omega⟩
    simp only [node_Write.l1]
    rw [if_neg (by omega), List.take_of_length_le (by omega), Seal_is, Option.bind_some, Seal_is, Option.bind_some]
    by_cases h : lv > 0
    · rw [if_pos h, if_pos h]
    · rw [if_neg h, if_neg h]
  | succ d ih =>
    intro k i hi hk
    obtain ⟨k, rfl⟩ : ∃ q, k = q + 1 := ⟨k - 1, by omega⟩
    have hq := take_klen_le m i
    simp only [node_Write.l1]
    rw [if_pos (by omega), if_pos (by omega), if_pos (by omega), rd57, inc64 i (by omega), Put_k _ _ (by rw [List.length_append]; omega), Option.bind_some, Put_is _ _ _ (by simp only [List.length_append, keyD_len]; omega), Option.bind_some, put2]
    have := ih k (i + 1) (by omega) (by omega)
    rw [kidsD_snoc m i (by omega)] at this
    rw [← this]
    unfold kidD
    simp only [List.append_assoc]
theorem Write_loop0 (lv : Int) (l : List S52) (m : List S57) (hl : l.length ≤ 100) (hm : m.length ≤ 100) (hd : (itemsD l).length ≤ 10000) (h0 h1 h2 h3 h4 : Int) (d : Nat) : ∀ k i, i + d = l.length → d + m.length + 1 < k →
    node_Write.l0 k (itemsD (l.take i)) l (l.length : Int) (i : Int) lv l m h0 h1 h2 h3 h4 = some (sealR (if lv > 0 then 4 else h0) h1 h2 h3 h4 (itemsD l ++ kidsD m)) := by
  induction d with
  | zero =>
    intro k i hi hk
    obtain ⟨k, rfl⟩ : ∃ q, k = q + 1 := ⟨k - 1, by omega⟩
    simp only [node_Write.l0]
    rw [if_neg (by omega), List.take_of_length_le (by omega)]
    have := Write_loop1 lv l m hm (itemsD l) hd h0 h1 h2 h3 h4 m.length k 0 (by omega) (by omega)
    rw [show kidsD (m.take 0) = [] from nil_take kidD m, List.append_nil] at this
    exact this
  | succ d ih =>
    intro k i hi hk
    obtain ⟨k, rfl⟩ : ∃ q, k = q + 1 := ⟨k - 1, by omega⟩
    have hq := take_len_le l 10000 i hd
    have hv := item_len_le l 10000 i (by omega) hd
    simp only [node_Write.l0]
    rw [if_pos (by omega), if_pos (by omega), if_pos (by omega), rd52, inc64 i (by omega), Put_k _ _ (by omega), Option.bind_some, Put_is _ _ _ (by simp only [List.length_append, keyD_len]; omega), Option.bind_some, put1, if_pos (by simp only [List.length_append, keyD_len, digits_length]; omega)]
    have := ih k (i + 1) (by omega) (by omega)
    rw [itemsD_snoc l i (by omega)] at this
    rw [← this]
    unfold itemD
    simp only [List.append_assoc]
/-- What Write answers. -/
def writeR (lv : Int) (l : List S52) (m : List S57) (a g : Int) : List Int × Int :=
  if mayR lv l m = true then sealR (if lv > 0 then 4 else 3) a ((l.length + m.length : Nat) : Int) lv g (itemsD l ++ kidsD m) else ([], 1)
theorem mayR_leaf (lv : Int) (l : List S52) (m : List S57) (h : mayR lv l m = true) (h0 : lv = 0) : (∀ j, j < l.length → (l.getD j z52).f1.length ≤ 28) ∧ m = [] ∧ 1 ≤ l.length ∧ l.length ≤ 6 ∧ risesK (l.map (·.f0)) = true := by
  unfold mayR at h
  rw [if_pos h0] at h
  simp only [Bool.and_eq_true, allF_iff, decide_eq_true_eq] at h
  exact ⟨fun j hj => h.1 j (Nat.zero_le _) (by omega), List.eq_nil_of_length_eq_zero h.2.1, h.2.2.1.1, h.2.2.1.2, h.2.2.2⟩
theorem mayR_inner (lv : Int) (l : List S52) (m : List S57) (h : mayR lv l m = true) (h0 : lv ≠ 0) : (∀ j, j < m.length → 1 ≤ (m.getD j z57).f1 ∧ (m.getD j z57).f1 ≤ 2047) ∧ l = [] ∧ 1 ≤ lv ∧ lv ≤ 7 ∧ 2 ≤ m.length ∧ m.length ≤ 12 ∧ risesK (m.map (·.f0)) = true := by
  unfold mayR at h
  rw [if_neg h0] at h
  simp only [Bool.and_eq_true, allF_iff, decide_eq_true_eq] at h
  exact ⟨fun j hj => h.1 j (Nat.zero_le _) (by omega), List.eq_nil_of_length_eq_zero h.2.2.1, h.2.1.1, h.2.1.2, h.2.2.2.1.1, h.2.2.2.1.2, h.2.2.2.2⟩
theorem mayR_len (lv : Int) (l : List S52) (m : List S57) (h : mayR lv l m = true) : (itemsD l ++ kidsD m).length ≤ 236 ∧ l.length + m.length ≤ 12 ∧ (itemsD l).length ≤ 10000 := by
  by_cases h0 : lv = 0
  · obtain ⟨h1, rfl, h2, h3, _⟩ := mayR_leaf lv l m h h0
    have := itemsD_len l h1
    rw [List.length_append, kidsD_len]
    simp only [List.length_nil]
    omega
  · obtain ⟨h1, rfl, h2, h3, h4, h5, _⟩ := mayR_inner lv l m h h0
    rw [List.length_append, kidsD_len]
    simp only [List.length_nil, itemsD, List.map_nil, List.flatten_nil]
    omega
theorem Write_is (k : Nat) (lv : Int) (l : List S52) (m : List S57) (a g : Int) (hl : l.length ≤ 20) (hm : m.length ≤ 20) (hk : 100 ≤ k) : node_Write.f k lv l m a g = some (writeR lv l m a g) := by
  unfold node_Write.f writeR
  rw [May_is k lv l m (by omega) (by omega) (by omega), Option.bind_some]
  by_cases h : mayR lv l m = true
  · rw [if_pos h, if_pos h]
    obtain ⟨h1, h2, h3⟩ := mayR_len lv l m h
    have := Write_loop0 lv l m (by omega) (by omega) h3 3 a (wrap64 ((l.length : Int) + (m.length : Int))) lv g l.length k 0 (by omega) (by omega)
    rw [show itemsD (l.take 0) = [] from nil_take itemD l] at this
    refine this.trans ?_
    rw [w64_small (by omega) (by omega), Int.natCast_add]
  · rw [if_neg h, if_neg h]
end Go.Proofs.Ytcjnknpbikfimaa.NodeLem
