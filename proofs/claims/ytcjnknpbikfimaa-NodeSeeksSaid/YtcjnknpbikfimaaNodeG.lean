import Derived.Test.YtcjnknpbikfimaaNodeC
import Derived.Test.YtcjnknpbikfimaaNodeAR
import Derived.Test.YtcjnknpbikfimaaNumCore
import Derived.Test.YtcjnknpbikfimaaPx36
import Derived.Test.YtcjnknpbikfimaaPx37
import Derived.Test.YtcjnknpbikfimaaPx38
import Derived.Test.YtcjnknpbikfimaaPx35
import Derived.Test.YtcjnknpbikfimaaPx39
/-! Where a key is, the least one, and the blocks that are named, in the reference. -/
namespace Go.Proofs.Ytcjnknpbikfimaa.NodeLem
open Go.RowKit Go.Proofs.Ytcjnknpbikfimaa.P Go.Proofs.Ytcjnknpbikfimaa.NumLem Go.Proofs.YtcjnknpbikfimaaW.PrintWords Go.Proofs.YtcjnknpbikfimaaW.PrintLast
set_option linter.unusedVariables false
set_option linter.unusedSimpArgs false
def BytesV (l : List S52) : Prop := ∀ j, j < l.length → Bytes (l.getD j z52).f1
theorem eqK_is (x k : S35) : ((x.f0 == k.f0) && ((x.f1 == k.f1) && (x.f2 == k.f2))) = eqK x k := rfl
theorem refSeek_leaf (K : List S35) (k : S35) (hK : K.length ≤ 1000) (d : Nat) : ∀ q i, i + d = K.length → d < q → (∀ j, j < i → lessK (K.getD j z35) k = true) →
    cambiumref06_Seek.l0 q K (i : Int) k.f0 k.f1 k.f2 = some (((firstN (fun x => lessK x k) K : Nat) : Int), decide (firstN (fun x => lessK x k) K < K.length) && eqK (K.getD (firstN (fun x => lessK x k) K) z35) k) := by
  induction d with
  | zero =>
    intro q i hi hq hall
    obtain ⟨q, rfl⟩ : ∃ r, q = r + 1 := ⟨q - 1, by omega⟩
    simp only [cambiumref06_Seek.l0]
    have e := firstN_is (fun x => lessK x k) z35 K i hall (by omega) (Or.inl (by omega))
    rw [if_neg (by omega), e, decide_eq_false (by omega), Bool.false_and]
  | succ d ih =>
    intro q i hi hq hall
    obtain ⟨q, rfl⟩ : ∃ r, q = r + 1 := ⟨q - 1, by omega⟩
    simp only [cambiumref06_Seek.l0]
    rw [if_pos (by omega), if_pos (by omega), rd35, refLess_k, Option.bind_some, inc64 i (by omega)]
    cases hl : lessK (K.getD i z35) k with
    | true =>
      rw [if_pos rfl]
      exact ih q (i + 1) (by omega) (by omega) (fun j hj => by
        rcases Nat.lt_succ_iff_lt_or_eq.1 hj with h | h
        · exact hall j h
        · rw [h]; exact hl)
    | false =>
      have e := firstN_is (fun x => lessK x k) z35 K i hall (by omega) (Or.inr hl)
      rw [if_neg (by decide), e, decide_eq_true (show i < K.length by omega), Bool.true_and]
      rfl
theorem rises_lt (K : List S35) (h : risesK K = true) (k : S35) (a : Nat) (ha : lessK k (K.getD a z35) = true) : ∀ d, a + d < K.length → lessK k (K.getD (a + d) z35) = true := by
  intro d
  induction d with
  | zero => intro _; exact ha
  | succ d ih => intro hd; exact lessK_trans (ih (by omega)) (risesK_step K h (a + d) (by omega))
theorem refSeek_inner (K : List S35) (k : S35) (hK : K.length ≤ 1000) (h1 : 1 ≤ K.length) (hr : risesK K = true) (d : Nat) : ∀ q i, i + d = K.length → d < q →
    cambiumref06_Seek.l1 q K ((min i (firstN (fun x => !lessK k x) K) - 1 : Nat) : Int) (i : Int) k.f0 k.f1 k.f2 = some (((firstN (fun x => !lessK k x) K - 1 : Nat) : Int), decide (firstN (fun x => !lessK k x) K - 1 < K.length) && eqK (K.getD (firstN (fun x => !lessK k x) K - 1) z35) k) := by
  have hle := firstN_le (fun x => !lessK k x) K
  have hall := firstN_all (fun x => !lessK k x) z35 K
  have hst := firstN_stop (fun x => !lessK k x) z35 K
  generalize firstN (fun x => !lessK k x) K = f at *
  induction d with
  | zero =>
    intro q i hi hq
    obtain ⟨q, rfl⟩ : ∃ r, q = r + 1 := ⟨q - 1, by omega⟩
    simp only [cambiumref06_Seek.l1]
    rw [if_neg (by omega), Nat.min_eq_right (show f ≤ i by omega), if_pos (by omega), if_pos (by omega), rd35, decide_eq_true (show f - 1 < K.length by omega), Bool.true_and]
    rfl
  | succ d ih =>
    intro q i hi hq
    obtain ⟨q, rfl⟩ : ∃ r, q = r + 1 := ⟨q - 1, by omega⟩
    simp only [cambiumref06_Seek.l1]
    rw [if_pos (by omega), if_pos (by omega), rd35, refLess_k, Option.bind_some, inc64 i (by omega)]
    have hih := ih q (i + 1) (by omega) (by omega)
    by_cases hif : i < f
    · have hp := hall i hif
      have hl : lessK k (K.getD i z35) = false := by simpa using hp
      rw [hl, if_neg (by decide)]
      rw [show min (i + 1) f - 1 = i by omega] at hih
      exact hih
    · have hl : lessK k (K.getD i z35) = true := by
        rcases hst with h | h
        · omega
        · have := rises_lt K hr k f (by simpa using h) (i - f) (by omega)
          rwa [show f + (i - f) = i by omega] at this
      rw [hl, if_pos rfl]
      rw [show min (i + 1) f - 1 = min i f - 1 by omega] at hih
      exact hih
theorem refSeek_is (q : Nat) (lv : Int) (l : List S52) (m : List S57) (k : S35) (h : mayR lv l m = true) (hq : 100 ≤ q) : cambiumref06_Seek.f q lv l m k.f0 k.f1 k.f2 = some (((seekI lv l m k : Nat) : Int), decide (seekI lv l m k < (keysR l m).length) && eqK ((keysR l m).getD (seekI lv l m k) z35) k) := by
  unfold cambiumref06_Seek.f seekI
  by_cases h0 : lv = 0
  · obtain ⟨rfl, h1, h2, _⟩ := mayR_leaf' lv l m h h0
    have e : keysR l [] = l.map (·.f0) := by unfold keysR; simp
    rw [Keys_is q lv l [] (by omega) (by simp) (by simp; omega), Option.bind_some, if_pos h0, if_pos h0, e]
    have := refSeek_leaf (l.map (·.f0)) k (by rw [List.length_map]; omega) l.length q 0 (by rw [List.length_map]; omega) (by omega) (fun j hj => absurd hj (Nat.not_lt_zero _))
    rw [firstN_map] at this
    exact this
  · obtain ⟨rfl, h1, h2, h3, h4⟩ := mayR_inner' lv l m h h0
    have e : keysR [] m = m.map (·.f0) := by unfold keysR; simp
    rw [Keys_is q lv [] m (by simp) (by omega) (by simp; omega), Option.bind_some, if_neg h0, if_neg h0, e]
    have := refSeek_inner (m.map (·.f0)) k (by rw [List.length_map]; omega) (by rw [List.length_map]; omega) h4 m.length q 0 (by rw [List.length_map]; omega) (by omega)
    rw [firstN_map, Nat.zero_min] at this
    exact this
theorem pair_is (a b : Int) (ha : 0 ≤ a ∧ a < 256) (hb : 0 ≤ b ∧ b < 256) : Go.bits .or .i64 (wrap64 (wrap64 a * 256)) (wrap64 b) = wrap64 (wrap64 (256 * wrap64 a) + wrap64 b) := by
  rw [NodeLem.w64_small (x := a) (by omega) (by omega), NodeLem.w64_small (x := b) (by omega) (by omega), NodeLem.w64_small (x := a * 256) (by omega) (by omega), NodeLem.w64_small (x := 256 * a) (by omega) (by omega), NodeLem.w64_small (by omega) (by omega)]
  have := bits_join .i64 62 (by decide) (fun n h0 h1 => by rw [IntKind.wrap_i64]; have : n < 4611686018427387904 := h1; omega) 8 (x := a * 256) (y := b) (by omega) (by omega) (by show a * 256 < 4611686018427387904; omega) hb.1 hb.2 (by show b < 4611686018427387904; omega)
  rw [this]
  omega
theorem rd_byte (l : List Int) (h : Bytes l) (i : Nat) (hi : i < l.length) : 0 ≤ rd l (i : Int) ∧ rd l (i : Int) < 256 := by
  unfold rd
  rw [Int.toNat_natCast, List.getD_eq_getElem?_getD, List.getElem?_eq_getElem hi]
  exact h _ (List.getElem_mem hi)
theorem Kids_loop1 (lv : Int) (l : List S52) (m : List S57) (hb : BytesV l) (hl : l.length ≤ 1000) (d : Nat) : ∀ k i (acc : List Int), i + d = l.length → d < k → acc.length ≤ 1000 + i → ∃ r, node_Kids.l1 k acc l (l.length : Int) (i : Int) = some r ∧ cambiumref06_Kids.l1 k acc (i : Int) lv l m = some r ∧ r.length ≤ 2000 := by
  induction d with
  | zero =>
    intro k i acc hi hk ha
    obtain ⟨k, rfl⟩ : ∃ r, k = r + 1 := ⟨k - 1, by omega⟩
    simp only [node_Kids.l1, cambiumref06_Kids.l1]
    rw [if_neg (by omega), if_neg (by omega)]
    exact ⟨acc, rfl, rfl, by omega⟩
  | succ d ih =>
    intro k i acc hi hk ha
    obtain ⟨k, rfl⟩ : ∃ r, k = r + 1 := ⟨k - 1, by omega⟩
    have hbx := hb i (by omega)
    obtain ⟨r, h1, h2, h3⟩ := ih k (i + 1) acc (by omega) (by omega) (by omega)
    have ha1 : (i : Int) < (l.length : Int) := by omega
    have ha2 : (0 : Int) ≤ (i : Int) := by omega
    have ha3 : acc.length < 17592186044416 := by omega
    simp only [node_Kids.l1, cambiumref06_Kids.l1, if_pos ha1, if_pos ha2, if_pos ha3, rd52, inc64 i (show i ≤ 100000 by omega)]
    generalize l.getD i z52 = x at *
    by_cases c1 : x.f0.f1 = 3
    · simp only [if_pos c1]
      by_cases c2 : (x.f1.length : Int) = 3
      · have b0 : (0 : Int) < (x.f1.length : Int) := by omega
        have b1 : (1 : Int) < (x.f1.length : Int) := by omega
        have b2 : (2 : Int) < (x.f1.length : Int) := by omega
        simp only [if_pos c2, if_pos b0]
        by_cases c3 : rd x.f1 0 = 1
        · obtain ⟨r, h1, h2, h3⟩ := ih k (i + 1) (acc ++ [wrap64 (wrap64 (256 * wrap64 (rd x.f1 1)) + wrap64 (rd x.f1 2))]) (by omega) (by omega) (by rw [List.length_append, List.length_singleton]; omega)
          have e := pair_is (rd x.f1 1) (rd x.f1 2) (rd_byte x.f1 hbx 1 (by omega)) (rd_byte x.f1 hbx 2 (by omega))
          simp only [if_pos c3, if_pos b1, if_pos b2, e]
          exact ⟨r, h1, h2, h3⟩
        · simp only [if_neg c3]; exact ⟨r, h1, h2, h3⟩
      · simp only [if_neg c2]; exact ⟨r, h1, h2, h3⟩
    · simp only [if_neg c1]; exact ⟨r, h1, h2, h3⟩
theorem Kids_loop0 (lv : Int) (l : List S52) (m : List S57) (hb : BytesV l) (hl : l.length ≤ 1000) (hm : m.length ≤ 900) (d : Nat) : ∀ k i (acc : List Int), i + d = m.length → d + l.length + 1 < k → acc.length ≤ i → ∃ r, node_Kids.l0 k acc m (m.length : Int) (i : Int) lv l m = some r ∧ cambiumref06_Kids.l0 k acc (i : Int) lv l m = some r ∧ r.length ≤ 2000 := by
  induction d with
  | zero =>
    intro k i acc hi hk ha
    obtain ⟨k, rfl⟩ : ∃ r, k = r + 1 := ⟨k - 1, by omega⟩
    simp only [node_Kids.l0, cambiumref06_Kids.l0]
    rw [if_neg (by omega), if_neg (by omega)]
    exact Kids_loop1 lv l m hb hl l.length k 0 acc (by omega) (by omega) (by omega)
  | succ d ih =>
    intro k i acc hi hk ha
    obtain ⟨k, rfl⟩ : ∃ r, k = r + 1 := ⟨k - 1, by omega⟩
    have ha1 : (i : Int) < (m.length : Int) := by omega
    have ha2 : (0 : Int) ≤ (i : Int) := by omega
    have ha3 : acc.length < 17592186044416 := by omega
    simp only [node_Kids.l0, cambiumref06_Kids.l0, if_pos ha1, if_pos ha2, if_pos ha3, inc64 i (show i ≤ 100000 by omega)]
    exact ih k (i + 1) _ (by omega) (by omega) (by rw [List.length_append, List.length_singleton]; omega)
theorem Kids_same (k : Nat) (lv : Int) (l : List S52) (m : List S57) (hb : BytesV l) (hl : l.length ≤ 20) (hm : m.length ≤ 20) (hk : 100 ≤ k) : ∃ r, node_Kids.f k lv l m = some r ∧ cambiumref06_Kids.f k lv l m = some r ∧ r.length ≤ 2000 := by
  unfold node_Kids.f cambiumref06_Kids.f
  exact Kids_loop0 lv l m hb (by omega) (by omega) m.length k 0 [] (by omega) (by omega) (by simp)
theorem Least_same (k : Nat) (lv : Int) (l : List S52) (m : List S57) (hl : l.length ≤ 20) (hm : m.length ≤ 20) (hk : 100 ≤ k) : ∃ r, node_Least.f lv l m = some r ∧ cambiumref06_Least.f k lv l m = some r := by
  unfold node_Least.f cambiumref06_Least.f
  have hlen : (keysR l m).length = l.length + m.length := by unfold keysR; simp
  rw [Keys_is k lv l m (by omega) (by omega) (by omega), Option.bind_some]
  have g0 : ∀ K : List S35, rd_T35 K 0 = K.getD 0 z35 := fun K => rd35 K 0
  have g1 : rd_T52 l 0 = l.getD 0 z52 := rd52 l 0
  have g2 : rd_T57 m 0 = m.getD 0 z57 := rd57 m 0
  rw [g0, g1, g2]
  by_cases h1 : (l.length : Int) > 0
  · rw [if_pos h1, if_pos (by omega), if_neg (by omega), if_pos (by omega)]
    cases l with
    | nil => simp at h1
    | cons x t => exact ⟨_, rfl, rfl⟩
  · have hz : l = [] := List.eq_nil_of_length_eq_zero (by omega)
    subst hz
    rw [if_neg h1]
    by_cases h2 : (m.length : Int) > 0
    · rw [if_pos h2, if_pos (by omega), if_neg (by simp at hlen; omega), if_pos (by simp at hlen; omega)]
      cases m with
      | nil => simp at h2
      | cons x t => exact ⟨_, rfl, rfl⟩
    · rw [if_neg h2, if_pos (by simp at hlen; omega)]
      exact ⟨_, rfl, rfl⟩
end Go.Proofs.Ytcjnknpbikfimaa.NodeLem
