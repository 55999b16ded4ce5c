import Derived.Test.YtcjnknpbikfimaaNodeB
import Derived.Test.YtcjnknpbikfimaaNumTk
import Derived.Test.YtcjnknpbikfimaaSealLem
import Derived.Test.YtcjnknpbikfimaaPx27
/-! What was written is read. -/
namespace Go.Proofs.Ytcjnknpbikfimaa.NodeLem
open Go.RowKit Go.Proofs.Ytcjnknpbikfimaa.P Go.Proofs.Ytcjnknpbikfimaa.NumLem Go.Proofs.Ytcjnknpbikfimaa.SealLem Go.Proofs.YtcjnknpbikfimaaW.PrintWords Go.Proofs.YtcjnknpbikfimaaW.PrintLast
set_option linter.unusedVariables false
set_option linter.unusedSimpArgs false
theorem u64_same {x : Int} (h0 : 0 ≤ x) (h1 : x < 18446744073709551616) : u64 x = x := u64_of h0 h1
theorem take_dig (v : Int) (n : Nat) (r : List Int) (h1 : 1 ≤ n) (h2 : n ≤ 7) (h0 : 0 ≤ v) (hm : v < 256 ^ n) (hb : Bytes r) (hr : r.length ≤ 10000) : num_Take.f (digits v n ++ r) n = some (v, r, 0) := by
  have hd := digits_length n v
  rw [Take_is _ _ ((digits_bytes n v).append hb) (by rw [List.length_append]; omega)]
  unfold takeR
  rw [if_neg (by omega), if_neg (by rw [List.length_append]; omega), Int.toNat_natCast, List.take_append_of_le_length (by omega), List.drop_append_of_le_length (by omega), List.take_of_length_le (by omega), List.drop_of_length_le (by omega), val_digits, Int.emod_eq_of_lt h0 hm]
  simp
theorem mayK_iff (a : S35) : mayK a = true ↔ 0 ≤ a.f0 ∧ a.f0 ≤ 2147483647 ∧ 0 ≤ a.f1 ∧ a.f1 ≤ 255 ∧ 0 ≤ a.f2 ∧ a.f2 ≤ 2147483647 := by unfold mayK; exact decide_eq_true_iff
theorem keyD_may (a : S35) (h : mayK a = true) : keyD a = digits a.f0 4 ++ (digits a.f1 1 ++ digits a.f2 4) := by
  have := (mayK_iff a).1 h
  unfold keyD
  rw [u64_same (by omega) (by omega), u64_same (by omega) (by omega), u64_same (by omega) (by omega)]
theorem keyD_bytes (a : S35) : Bytes (keyD a) := (digits_bytes _ _).append ((digits_bytes _ _).append (digits_bytes _ _))
theorem Take_key (a : S35) (h : mayK a = true) (r : List Int) (hb : Bytes r) (hr : r.length ≤ 1000) : key_Take.f (keyD a ++ r) = some (a.f0, a.f1, a.f2, r, 0) := by
  have hk := (mayK_iff a).1 h
  have d0 := digits_length 4 a.f0
  have d1 := digits_length 1 a.f1
  have d2 := digits_length 4 a.f2
  have e0 := take_dig a.f0 4 (digits a.f1 1 ++ (digits a.f2 4 ++ r)) (by omega) (by omega) (by omega) (by show a.f0 < 4294967296; omega) ((digits_bytes _ _).append ((digits_bytes _ _).append hb)) (by simp only [List.length_append]; omega)
  have e1 := take_dig a.f1 1 (digits a.f2 4 ++ r) (by omega) (by omega) (by omega) (by show a.f1 < 256; omega) ((digits_bytes _ _).append hb) (by simp only [List.length_append]; omega)
  have e2 := take_dig a.f2 4 r (by omega) (by omega) (by omega) (by show a.f2 < 4294967296; omega) hb (by omega)
  unfold key_Take.f
  rw [keyD_may a h]
  simp only [List.append_assoc]
  rw [if_neg (by simp only [List.length_append]; omega)]
  simp only [show (4 : Int) = ((4 : Nat) : Int) from rfl, show (1 : Int) = ((1 : Nat) : Int) from rfl, e0, e1, e2, Option.bind_some, MayK, h, if_true]
theorem bytes_of (l : List Int) (h : Bytes l) : bytesOf (strOfNums l) = l := by
  unfold strOfNums bytesOf
  rw [List.map_map]
  conv => rhs; rw [← List.map_id l]
  apply List.map_congr_left
  intro x hx
  have := h x hx
  simp
  omega
theorem inc64b (i : Nat) (h : i ≤ 100000) : wrap64 ((i : Int) + 1) = ((i + 1 : Nat) : Int) := NodeLem.inc64 i h
theorem pad_zero (z : Nat) (hz : z ≤ 1000) (d : Nat) : ∀ k i, i + d = z → d + 1 < k → ∀ (lv : Int) (l : List S52) (m : List S57), l.length ≤ 100 → m.length ≤ 100 → 2 * (l.length + m.length) + 8 + d ≤ k → node_Read.l1 k (List.replicate z 0) (z : Int) (i : Int) lv l m = some (if mayR lv l m = true then (lv, l, m, 0) else (0, [], [], 3)) := by
  induction d with
  | zero =>
    intro k i hi hk lv l m hl hm hk2
    obtain ⟨k, rfl⟩ : ∃ q, k = q + 1 := ⟨k - 1, by omega⟩
    simp only [node_Read.l1]
    rw [if_neg (by omega), May_is k lv l m (by omega) (by omega) (by omega), Option.bind_some]
    by_cases h : mayR lv l m = true
    · rw [if_pos h, if_pos h]
    · rw [if_neg h, if_neg h]
  | succ d ih =>
    intro k i hi hk lv l m hl hm hk2
    obtain ⟨k, rfl⟩ : ∃ q, k = q + 1 := ⟨k - 1, by omega⟩
    simp only [node_Read.l1]
    have hr : rd (List.replicate z (0 : Int)) (i : Int) = 0 := by
      unfold rd
      rw [Int.toNat_natCast, List.getD_eq_getElem?_getD, List.getElem?_replicate]
      split <;> rfl
    rw [if_pos (by omega), if_pos (by omega), if_pos (by rw [List.length_replicate]; omega), if_pos hr, inc64b i (by omega)]
    exact ih k (i + 1) (by omega) (by omega) lv l m hl hm (by omega)
/-- A value of bytes. -/
def BytesV (l : List S52) : Prop := ∀ j, j < l.length → Bytes (l.getD j z52).f1
theorem itemD_bytes (x : S52) (h : Bytes x.f1) : Bytes (itemD x) := (keyD_bytes _).append ((digits_bytes _ _).append h)
theorem kidD_bytes (x : S57) : Bytes (kidD x) := (keyD_bytes _).append (digits_bytes _ _)
theorem drop_getD {α : Type} (l : List α) (i : Nat) (z : α) (h : i < l.length) : l.drop i = l.getD i z :: l.drop (i + 1) := by
  rw [List.drop_eq_getElem_cons h, List.getD_eq_getElem?_getD, List.getElem?_eq_getElem h]
  rfl
theorem itemsD_cons (l : List S52) (i : Nat) (h : i < l.length) : itemsD (l.drop i) = itemD (l.getD i z52) ++ itemsD (l.drop (i + 1)) := by
  unfold itemsD
  rw [drop_getD l i z52 h]
  rfl
theorem kidsD_cons (m : List S57) (i : Nat) (h : i < m.length) : kidsD (m.drop i) = kidD (m.getD i z57) ++ kidsD (m.drop (i + 1)) := by
  unfold kidsD
  rw [drop_getD m i z57 h]
  rfl
theorem itemsD_bytes (l : List S52) (h : BytesV l) : Bytes (itemsD l) := by
  induction l with
  | nil => exact Bytes.nil
  | cons x l ih =>
    exact (itemD_bytes x (h 0 (by simp))).append (ih (fun j hj => h (j + 1) (by simp only [List.length_cons]; omega)))
theorem kidsD_bytes (m : List S57) : Bytes (kidsD m) := by
  induction m with
  | nil => exact Bytes.nil
  | cons x m ih => exact (kidD_bytes x).append ih
theorem BytesV.drop {l : List S52} (h : BytesV l) (i : Nat) : BytesV (l.drop i) := by
  intro j hj
  rw [List.length_drop] at hj
  have e : (l.drop i).getD j z52 = l.getD (i + j) z52 := by
    rw [List.getD_eq_getElem?_getD, List.getD_eq_getElem?_getD, List.getElem?_drop]
  rw [e]
  exact h (i + j) (by omega)
theorem risesK_may (l : List S35) (h : risesK l = true) (i : Nat) (hi : i < l.length) : mayK (l.getD i z35) = true := by
  unfold risesK at h
  have := (allF_iff _ _ _).1 h i (Nat.zero_le _) (by omega)
  unfold okAt at this
  rw [Bool.and_eq_true] at this
  exact this.1
theorem drop_len_le (l : List S52) (n i : Nat) (h : (itemsD l).length ≤ n) : (itemsD (l.drop i)).length ≤ n := by
  refine Nat.le_trans ?_ h
  conv => rhs; rw [← List.take_append_drop i l]
  unfold itemsD
  rw [List.map_append, List.flatten_append, List.length_append]
  omega
theorem Read_items (l : List S52) (z : Nat) (hz : z ≤ 300) (hm : mayR 0 l [] = true) (hb : BytesV l) (d : Nat) : ∀ k i, i + d = l.length → 400 + d ≤ k → node_Read.l0 k (itemsD (l.drop i) ++ List.replicate z 0) (l.length : Int) (i : Int) 0 (l.take i) [] = some (0, l, [], 0) := by
  obtain ⟨hv, _, h1, h6, hr⟩ := mayR_leaf 0 l [] hm rfl
  have hd := itemsD_len l hv
  induction d with
  | zero =>
    intro k i hi hk
    obtain ⟨k, rfl⟩ : ∃ q, k = q + 1 := ⟨k - 1, by omega⟩
    simp only [node_Read.l0]
    rw [if_neg (by omega), List.take_of_length_le (by omega), List.drop_of_length_le (by omega)]
    have e0 : itemsD [] = [] := rfl
    rw [e0, List.nil_append, List.length_replicate]
    have := pad_zero z (by omega) z k 0 (by omega) (by omega) 0 l [] (by omega) (by simp) (by simp; omega)
    rw [if_pos hm] at this
    exact this
  | succ d ih =>
    intro k i hi hk
    obtain ⟨k, rfl⟩ : ∃ q, k = q + 1 := ⟨k - 1, by omega⟩
    have hil : i < l.length := by omega
    have hx := hv i hil
    have hbx := hb i hil
    have hkm : mayK (l.getD i z52).f0 = true := by
      have := risesK_may _ hr i (by rw [List.length_map]; exact hil)
      rwa [show (l.map (·.f0)).getD i z35 = (l.getD i z52).f0 from getD_map (fun x : S52 => x.f0) l i z52] at this
    have hdl := drop_len_le l 228 (i + 1) (by omega)
    have hbr : Bytes (itemsD (l.drop (i + 1)) ++ List.replicate z 0) := (itemsD_bytes _ (hb.drop _)).append (zeros_bytes z)
    have hlr : (itemsD (l.drop (i + 1)) ++ List.replicate z 0).length ≤ 528 := by rw [List.length_append, List.length_replicate]; omega
    have e1 : itemsD (l.drop i) ++ List.replicate z 0 = keyD (l.getD i z52).f0 ++ (digits ((l.getD i z52).f1.length : Int) 1 ++ ((l.getD i z52).f1 ++ (itemsD (l.drop (i + 1)) ++ List.replicate z 0))) := by
      rw [itemsD_cons l i hil]
      unfold itemD
      rw [u64_same (by omega) (by omega)]
      simp only [List.append_assoc]
    have hb2 : Bytes (digits ((l.getD i z52).f1.length : Int) 1 ++ ((l.getD i z52).f1 ++ (itemsD (l.drop (i + 1)) ++ List.replicate z 0))) := (digits_bytes _ _).append (hbx.append hbr)
    have hl2 : (digits ((l.getD i z52).f1.length : Int) 1 ++ ((l.getD i z52).f1 ++ (itemsD (l.drop (i + 1)) ++ List.replicate z 0))).length ≤ 600 := by
      rw [List.length_append, List.length_append, digits_length]; omega
    have tb := take_back (l.getD i z52).f1 (itemsD (l.drop (i + 1)) ++ List.replicate z 0) 1 (by omega) (by omega) (by show ((l.getD i z52).f1.length : Int) < 256; omega)
    rw [show (((1 : Nat) : Int)) = 1 from rfl] at tb
    have et := take_getD l i z52 hil
    have hid := ih k (i + 1) (by omega) (by omega)
    have htl : (l.take i).length ≤ 100 := by rw [List.length_take]; omega
    rw [e1]
    simp only [node_Read.l0]
    rw [if_pos (by omega), Take_key _ hkm _ hb2 (by omega), Option.bind_some, if_pos rfl, if_neg (by decide), TakeText_is _ hb2 (by omega), Option.bind_some, tb, if_pos rfl]
    unfold bytes_conv.f
    rw [if_pos (by
      show (strOfNums (l.getD i z52).f1).size ≤ 9223372036854775807
      have := congrArg List.length (bytes_of _ hbx)
      rw [bytesOf_length] at this
      omega), Option.bind_some, bytes_of _ hbx, if_pos (by omega), inc64b i (by omega), eta35, ← et]
    exact hid
theorem Read_kids (lv : Int) (m : List S57) (z : Nat) (hz : z ≤ 300) (hm : mayR lv [] m = true) (h0 : lv ≠ 0) (d : Nat) : ∀ k i, i + d = m.length → 400 + d ≤ k → node_Read.l0 k (kidsD (m.drop i) ++ List.replicate z 0) (m.length : Int) (i : Int) lv [] (m.take i) = some (lv, [], m, 0) := by
  obtain ⟨hv, _, h1, h7, h2, h12, hr⟩ := mayR_inner lv [] m hm h0
  induction d with
  | zero =>
    intro k i hi hk
    obtain ⟨k, rfl⟩ : ∃ q, k = q + 1 := ⟨k - 1, by omega⟩
    simp only [node_Read.l0]
    rw [if_neg (by omega), List.take_of_length_le (by omega), List.drop_of_length_le (by omega)]
    have e0 : kidsD [] = [] := rfl
    rw [e0, List.nil_append, List.length_replicate]
    have := pad_zero z (by omega) z k 0 (by omega) (by omega) lv [] m (by simp) (by omega) (by simp; omega)
    rw [if_pos hm] at this
    exact this
  | succ d ih =>
    intro k i hi hk
    obtain ⟨k, rfl⟩ : ∃ q, k = q + 1 := ⟨k - 1, by omega⟩
    have hil : i < m.length := by omega
    have hx := hv i hil
    have hkm : mayK (m.getD i z57).f0 = true := by
      have := risesK_may _ hr i (by rw [List.length_map]; exact hil)
      rwa [show (m.map (·.f0)).getD i z35 = (m.getD i z57).f0 from getD_map (fun x : S57 => x.f0) m i z57] at this
    have hdl : (kidsD (m.drop (i + 1))).length ≤ 132 := by rw [kidsD_len, List.length_drop]; omega
    have hbr : Bytes (kidsD (m.drop (i + 1)) ++ List.replicate z 0) := (kidsD_bytes _).append (zeros_bytes z)
    have hlr : (kidsD (m.drop (i + 1)) ++ List.replicate z 0).length ≤ 528 := by rw [List.length_append, List.length_replicate]; omega
    have e1 : kidsD (m.drop i) ++ List.replicate z 0 = keyD (m.getD i z57).f0 ++ (digits (m.getD i z57).f1 2 ++ (kidsD (m.drop (i + 1)) ++ List.replicate z 0)) := by
      rw [kidsD_cons m i hil]
      unfold kidD
      rw [u64_same (by omega) (by omega)]
      simp only [List.append_assoc]
    have hb2 : Bytes (digits (m.getD i z57).f1 2 ++ (kidsD (m.drop (i + 1)) ++ List.replicate z 0)) := (digits_bytes _ _).append hbr
    have hl2 : (digits (m.getD i z57).f1 2 ++ (kidsD (m.drop (i + 1)) ++ List.replicate z 0)).length ≤ 600 := by
      rw [List.length_append, digits_length]; omega
    have td := take_dig (m.getD i z57).f1 2 (kidsD (m.drop (i + 1)) ++ List.replicate z 0) (by omega) (by omega) (by omega) (by show (m.getD i z57).f1 < 65536; omega) hbr (by omega)
    rw [show (((2 : Nat) : Int)) = 2 from rfl] at td
    have et := take_getD m i z57 hil
    have hid := ih k (i + 1) (by omega) (by omega)
    have htl : (m.take i).length ≤ 100 := by rw [List.length_take]; omega
    rw [e1]
    simp only [node_Read.l0]
    rw [if_pos (by omega), Take_key _ hkm _ hb2 (by omega), Option.bind_some, if_pos rfl, if_pos (by omega), td, Option.bind_some, if_pos (by omega), inc64b i (by omega), eta35, ← et]
    exact hid
/-- What Write laid down is read as it was, at its address alone. -/
theorem Read_back (k : Nat) (hk : 500 ≤ k) (lv : Int) (l : List S52) (m : List S57) (a g b : Int) (hm : mayR lv l m = true) (hb : BytesV l) (hs : sealMay (if lv > 0 then 4 else 3) a ((l.length + m.length : Nat) : Int) lv g = true) :
    node_Read.f k (block (if lv > 0 then 4 else 3) a ((l.length + m.length : Nat) : Int) lv g (itemsD l ++ kidsD m)) b = some (if a = b then (lv, l, m, 0) else (0, [], [], 3)) := by
  obtain ⟨h1, h2, _⟩ := mayR_len lv l m hm
  have hbb : Bytes (itemsD l ++ kidsD m) := (itemsD_bytes l hb).append (kidsD_bytes m)
  have hop := seal_open (if lv > 0 then 4 else 3) a ((l.length + m.length : Nat) : Int) lv g _ hs h1
  have hbl := block_bytes (if lv > 0 then 4 else 3) a ((l.length + m.length : Nat) : Int) lv g _ hs hbb
  have hln := block_len (if lv > 0 then 4 else 3) a ((l.length + m.length : Nat) : Int) lv g _ h1
  generalize block (if lv > 0 then 4 else 3) a ((l.length + m.length : Nat) : Int) lv g (itemsD l ++ kidsD m) = bl at *
  obtain ⟨k, rfl⟩ : ∃ q, k = q + 2 := ⟨k - 2, by omega⟩
  unfold node_Read.f
  rw [Open_is bl hbl (by omega), Option.bind_some, hop]
  dsimp only
  have hcnt : decide (((l.length + m.length : Nat) : Int) > 12) = false := decide_eq_false (by omega)
  have hfin : ∀ q, 450 ≤ q → node_Read.j1 (q + 1) (itemsD l ++ kidsD m ++ List.replicate (236 - (itemsD l ++ kidsD m).length) 0) false (if lv > 0 then 4 else 3) a ((l.length + m.length : Nat) : Int) lv g = some (lv, l, m, 0) := by
    intro q hq
    simp only [node_Read.j1]
    rw [if_neg (by decide)]
    by_cases h0 : lv = 0
    · subst h0
      obtain ⟨_, rfl, _⟩ := mayR_leaf 0 l m hm rfl
      have := Read_items l (236 - (itemsD l ++ kidsD []).length) (by omega) hm hb l.length q 0 (by omega) (by omega)
      rw [List.drop_zero, List.take_zero] at this
      rw [show kidsD [] = [] from rfl, List.append_nil] at this ⊢
      rw [show l.length + ([] : List S57).length = l.length from rfl]
      exact this
    · obtain ⟨_, rfl, _⟩ := mayR_inner lv l m hm h0
      have := Read_kids lv m (236 - (itemsD [] ++ kidsD m).length) (by omega) hm h0 m.length q 0 (by omega) (by omega)
      rw [List.drop_zero, List.take_zero] at this
      rw [show itemsD [] = [] from rfl, List.nil_append] at this ⊢
      rw [show ([] : List S52).length + m.length = m.length from Nat.zero_add _]
      exact this
  have hbad : ∀ q c, node_Read.j1 (q + 1) (itemsD l ++ kidsD m ++ List.replicate (236 - (itemsD l ++ kidsD m).length) 0) true (if lv > 0 then 4 else 3) a c lv g = some (0, [], [], 3) := by
    intro q c
    simp only [node_Read.j1]
    rw [if_pos trivial]
  by_cases hp : lv > 0
  · rw [if_pos hp]
    rw [if_pos hp] at hfin hbad ⊢
    simp only [node_Read.j0]
    rw [if_pos trivial]
    by_cases hab : a = b
    · rw [if_pos hab, if_pos hab, if_pos trivial, hcnt]; exact hfin k (by omega)
    · rw [if_neg hab, if_neg hab]; exact hbad k _
  · rw [if_neg hp]
    rw [if_neg hp] at hfin hbad ⊢
    simp only [node_Read.j0]
    rw [if_pos trivial]
    by_cases hab : a = b
    · rw [if_pos hab, if_pos hab, if_pos trivial, hcnt]; exact hfin k (by omega)
    · rw [if_neg hab, if_neg hab]; exact hbad k _
/-- What is no block is no node. -/
theorem Read_bad (k : Nat) (hk : 10 ≤ k) (l : List Int) (hb : Bytes l) (hl : l.length ≤ 1000) (a : Int) (h : ¬ openOk l) : node_Read.f k l a = some (0, [], [], 3) := by
  obtain ⟨k, rfl⟩ : ∃ q, k = q + 2 := ⟨k - 2, by omega⟩
  unfold node_Read.f
  rw [Open_is l hb hl, Option.bind_some, openR_no l h]
  dsimp only
  rw [if_neg (by decide)]
  simp only [node_Read.j0, node_Read.j1]
  rw [if_neg (by decide), if_pos trivial]
end Go.Proofs.Ytcjnknpbikfimaa.NodeLem
