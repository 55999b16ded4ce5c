/- Functions and contracts, written by a program (mkprint.py, a wrapper of ours around the print); texts between GIVEN marks are ours. -/
import Derived.Test.YtcjnknpbikfimaaPx0
import Derived.Test.YtcjnknpbikfimaaPx1
import Derived.Test.YtcjnknpbikfimaaPx3
import Derived.Test.YtcjnknpbikfimaaPx9
namespace Go.Proofs.Ytcjnknpbikfimaa.P
open Go.RowKit Go.Proofs.YtcjnknpbikfimaaW.PrintWords Go.Proofs.YtcjnknpbikfimaaW.PrintLast Go.Proofs.YtcjnknpbikfimaaW.PrintMore
attribute [local go_sem] max2_int min2_int max_two min_two max_three min_three max_four min_four   -- for this text's walks alone
set_option linter.unusedVariables false
set_option linter.unusedSimpArgs false

/-! ### GIVEN node_Seek: function 15 -/
section
open Go.Proofs.Ytcjnknpbikfimaa.Sep
attribute [local go_sem high] eqA35
/-- One key stands ahead of another. -/
def lessK (a b : S35) : Bool := decide (a.f0 < b.f0 ∨ a.f0 = b.f0 ∧ (a.f1 < b.f1 ∨ a.f1 = b.f1 ∧ a.f2 < b.f2))
theorem CompareK (a b : Int) : cmp_Compare_int.f a b = some (if a < b then -1 else if a > b then 1 else 0) := by
  unfold cmp_Compare_int.f cmp_isNaN_int.f
  simp only [Option.bind_some, bne_self_eq_false]
  by_cases h : a < b
  · simp [h]
  · by_cases h2 : a > b
    · simp [h, h2]
    · simp [h, h2]
theorem OrK (x y z : Int) : cmp_Or_int.f 4 [x, y, z] = some (if x = 0 then (if y = 0 then z else y) else x) := by
  have r0 : rd [x, y, z] 0 = x := rfl
  have r1 : rd [x, y, z] 1 = y := rfl
  have r2 : rd [x, y, z] 2 = z := rfl
  have s0 : wrap64 (0 + 1) = 1 := by decide +kernel
  have s1 : wrap64 (1 + 1) = 2 := by decide +kernel
  have s2 : wrap64 (2 + 1) = 3 := by decide +kernel
  have hl : (([x, y, z] : List Int).length : Int) = 3 := rfl
  unfold cmp_Or_int.f
  simp only [cmp_Or_int.l0, hl, r0, s0, r1, s1, r2, s2]
  by_cases h : x = 0
  · by_cases h1 : y = 0
    · by_cases h2 : z = 0
      · simp [h, h1, h2]
      · simp [h, h1, h2]
    · simp [h, h1]
  · simp [h]
theorem LessK (a b : S35) : key_Less.f 4 a.f0 a.f1 a.f2 b.f0 b.f1 b.f2 = some (lessK a b) := by
  obtain ⟨a0, a1, a2⟩ := a
  obtain ⟨b0, b1, b2⟩ := b
  unfold key_Less.f lessK
  simp only [CompareK, Option.bind_some, OrK]
  congr 1
  rw [decide_eq_decide]
  rcases Int.lt_trichotomy a0 b0 with h | h | h
  · simp [h, Int.lt_irrefl]
  · subst h
    rcases Int.lt_trichotomy a1 b1 with h | h | h
    · simp [h, Int.lt_irrefl]
    · subst h
      rcases Int.lt_trichotomy a2 b2 with h | h | h
      · simp [h, Int.lt_irrefl]
      · subst h; simp [Int.lt_irrefl]
      · simp [Int.lt_irrefl, h, show ¬ a2 < b2 from by omega]
    · simp [Int.lt_irrefl, h, show ¬ a1 < b1 from by omega, show ¬ a1 = b1 from by omega]
  · simp [Int.lt_irrefl, h, show ¬ a0 < b0 from by omega, show ¬ a0 = b0 from by omega]
def keyV (k : S35) : Value := .agg #[.int .i64 k.f0, .int .i64 k.f1, .int .i64 k.f2]
def keyC (k : S35) : Array Value := #[.int .i64 k.f0, .int .i64 k.f1, .int .i64 k.f2]
variable {w0 w : World} {g : Nat} {k : S35} {ps : List HP}
theorem keyC_cells (h : St w0 w (blk g (keyC k) 35 :: ps)) : w.cell? ⟨g, 0, none⟩ = some (.int .i64 k.f0) ∧ w.cell? ⟨g, 1, none⟩ = some (.int .i64 k.f1) ∧ w.cell? ⟨g, 2, none⟩ = some (.int .i64 k.f2) := by
  have hb := h.blk_is
  exact ⟨blk_cell hb 0, blk_cell hb 1, blk_cell hb 2⟩
set_option maxHeartbeats 1000000 in
theorem node_Seek1.st (x : S52) (A : Option Addr) (n c : Nat) (h : St w0 w (blk g (keyC k) 35 :: ps)) :
    Calls Try.prog 39 #[.agg #[.int .i64 x.f0.f0, .int .i64 x.f0.f1, .int .i64 x.f0.f2, .slice A n c], .pointer (some ⟨g, 0, none⟩)] w fun e w' => e = .returned (.bool (lessK x.f0 k)) ∧ St w0 w' (blk g (keyC k) 35 :: ps) := by
  have H := Aside0.mk h
  have H1 := Aside0.mk (h.alloc (.cells #[.int .i64 x.f0.f0, .int .i64 x.f0.f1, .int .i64 x.f0.f2, .slice A n c] 52))
  obtain ⟨k0, k1, k2⟩ := keyC_cells H1.out
  clear h
  go_enter Try.func39, Try.ntmps39
  go_wp2_with fail
  refine (key_Less.calls 4 _ _ _ _ _ _ _ _ (LessK x.f0 k)).mono ?_
  rintro e w' ⟨rfl, hb⟩
  go_wp2
  go_ret
  exact ⟨rfl, H1.out.below_ hb⟩
/-- How many stand ahead, the first of which all are so. -/
def firstN {α : Type} (p : α → Bool) (l : List α) : Nat := (l.takeWhile p).length
theorem firstN_le {α : Type} (p : α → Bool) (l : List α) : firstN p l ≤ l.length := by
  unfold firstN
  induction l with
  | nil => exact Nat.le_refl _
  | cons a t ih =>
    rw [List.takeWhile_cons]
    split
    · simp only [List.length_cons]; omega
    · exact Nat.zero_le _
theorem firstN_is {α : Type} (p : α → Bool) (z : α) : ∀ (l : List α) (a : Nat), (∀ j, j < a → p (l.getD j z) = true) → a ≤ l.length → (a = l.length ∨ p (l.getD a z) = false) → firstN p l = a := by
  intro l
  induction l with
  | nil => intro a _ ha _; simp only [List.length_nil] at ha; unfold firstN; simp; omega
  | cons x t ih =>
    intro a h1 h2 h3
    cases a with
    | zero =>
      rcases h3 with h | h
      · simp at h
      · unfold firstN; rw [List.takeWhile_cons, if_neg (by rw [show p x = false from h]; decide)]; rfl
    | succ a =>
      have h0 : p x = true := h1 0 (by omega)
      have := ih a (fun j hj => h1 (j + 1) (by omega)) (by simpa using h2) (by
        rcases h3 with h | h
        · left; simpa using h
        · right; exact h)
      unfold firstN at this ⊢
      rw [List.takeWhile_cons, if_pos h0, List.length_cons, this]
theorem firstN_all {α : Type} (p : α → Bool) (z : α) (l : List α) : ∀ j, j < firstN p l → p (l.getD j z) = true := by
  induction l with
  | nil => intro j hj; unfold firstN at hj; simp at hj
  | cons x t ih =>
    intro j hj
    unfold firstN at hj
    rw [List.takeWhile_cons] at hj
    split at hj
    · cases j with
      | zero => assumption
      | succ j => exact ih j (by simpa [firstN] using hj)
    · simp at hj
theorem inc_k (a N : Nat) (h1 : a < N) (h2 : N ≤ 140737488355327) : wrap64 ((a : Int) + 1) = ((a + 1 : Nat) : Int) := by unfold wrap64; omega
theorem meas_k (a n : Nat) (h : a < n) : n - (intOf (.int .i64 ((a + 1 : Nat) : Int))).toNat < n - (intOf (.int .i64 (a : Int))).toNat := by show n - ((a + 1 : Nat) : Int).toNat < n - (a : Int).toNat; omega
set_option maxHeartbeats 2000000 in
theorem seek_Item.st (A : Option Addr) (N c : Nat) (l : List S52) (hr : Kd.C k52 w0 A N l) (hN : N ≤ 140737488355327) (h : St w0 w (blk g (keyC k) 35 :: ps)) :
    Calls Try.prog 38 #[.slice A N c, .func (.func 39) #[] #[.pointer (some ⟨g, 0, none⟩)]] w fun e w' => e = .returned (.int .i64 (firstN (fun x => lessK x.f0 k) l : Nat)) ∧ St w0 w' (blk g (keyC k) 35 :: ps) := by
  have H := Aside0.mk h
  have HR := Aside0.mk hr
  have HL := Aside0.mk hr.1
  have HN := Aside0.mk hN
  clear h hr hN
  go_enter Try.func38, Try.ntmps38
  go_wp2_with fail
  go_loopw [5, 6, 9] (fun _ _ i wr => ∃ a : Nat, i = .int .i64 a ∧ a ≤ N ∧ Aside0 (St w0 wr (blk g (keyC k) 35 :: ps)) ∧ Aside0 (∀ j, j < a → lessK (l.getD j z52).f0 k = true)) (fun _ _ i _ => N - (intOf i).toNat)
  case atStart => exact ⟨0, rfl, Nat.zero_le _, H, ⟨fun j hj => absurd hj (Nat.not_lt_zero _)⟩⟩
  case round =>
    clear H
    obtain ⟨a, rfl, ha, H, HP⟩ := hrel
    by_cases hlt : a < N
    · have h2 : (a : Int) < (N : Int) := Int.ofNat_lt.2 hlt
      have h1 : decide ((a : Int) < (N : Int)) = true := decide_eq_true h2
      obtain ⟨ad, A3, c3, rfl, k0, k1, k2, k3, _, _⟩ := at_T52 (Kd.C_below HR.out H.out.below) (a : Int) (Int.natCast_nonneg a) h2
      rw [Int.toNat_natCast] at k0 k1 k2 k3
      have e1 := Aside0.mk (inc_k a N hlt HN.out)
      have HLT := Aside0.mk hlt
      clear ha hlt
      obtain ⟨x, hx⟩ : ∃ x, rd_T52 l (a : Int) = x := ⟨_, rfl⟩
      rw [hx] at k0 k1 k2 k3
      have HX := Aside0.mk (show l.getD a z52 = x from hx)
      clear hx
      go_wp2_with fail
      refine (node_Seek1.st x A3 x.f1.length c3 (H.out.alloc _)).mono ?_
      rintro e w' ⟨rfl, hs⟩
      have H2 := Aside0.mk hs
      clear hs H k0 k1 k2 k3 h1 h2
      obtain ⟨b, hb⟩ : ∃ b, lessK x.f0 k = b := ⟨_, rfl⟩
      have HB := Aside0.mk hb
      rw [hb]
      clear hb
      cases b with
      | true =>
        go_wp2_with fail
        refine ⟨⟨a + 1, by rw [e1.out], HLT.out, H2, ⟨?_⟩⟩, by rw [e1.out]; exact meas_k a N HLT.out⟩
        intro j hj
        rcases Nat.lt_succ_iff_lt_or_eq.1 hj with h | h
        · exact HP.out j h
        · rw [h, HX.out]; exact HB.out
      | false =>
        go_wp2
        go_ret
        rw [firstN_is (fun x : S52 => lessK x.f0 k) z52 l a HP.out (by rw [HL.out]; exact Nat.le_of_lt HLT.out) (Or.inr (by rw [HX.out]; exact HB.out))]
        exact ⟨rfl, H2.out⟩
    · have h2 : ¬ (a : Int) < (N : Int) := fun h => hlt (Int.ofNat_lt.1 h)
      have h1 : decide ((a : Int) < (N : Int)) = false := decide_eq_false h2
      obtain rfl : a = N := Nat.le_antisymm ha (Nat.le_of_not_lt hlt)
      clear hlt ha
      go_wp2
      go_ret
      rw [firstN_is (fun x : S52 => lessK x.f0 k) z52 l a HP.out (by rw [HL.out]; exact Nat.le_refl _) (Or.inl (by rw [HL.out]))]
      exact ⟨rfl, H.out⟩
set_option maxHeartbeats 1000000 in
theorem node_Seek2.st (x : S57) (h : St w0 w (blk g (keyC k) 35 :: ps)) :
    Calls Try.prog 42 #[.agg #[.int .i64 x.f0.f0, .int .i64 x.f0.f1, .int .i64 x.f0.f2, .int .i64 x.f1], .pointer (some ⟨g, 0, none⟩)] w fun e w' => e = .returned (.bool (!lessK k x.f0)) ∧ St w0 w' (blk g (keyC k) 35 :: ps) := by
  have H := Aside0.mk h
  have H1 := Aside0.mk (h.alloc (.cells #[.int .i64 x.f0.f0, .int .i64 x.f0.f1, .int .i64 x.f0.f2, .int .i64 x.f1] 57))
  obtain ⟨k0, k1, k2⟩ := keyC_cells H1.out
  clear h
  go_enter Try.func42, Try.ntmps42
  go_wp2_with fail
  refine (key_Less.calls 4 _ _ _ _ _ _ _ _ (LessK k x.f0)).mono ?_
  rintro e w' ⟨rfl, hb⟩
  go_wp2
  go_ret
  exact ⟨rfl, H1.out.below_ hb⟩
set_option maxHeartbeats 2000000 in
theorem seek_Kid.st (A : Option Addr) (N c : Nat) (l : List S57) (hr : Kd.C k57 w0 A N l) (hN : N ≤ 140737488355327) (h : St w0 w (blk g (keyC k) 35 :: ps)) :
    Calls Try.prog 41 #[.slice A N c, .func (.func 42) #[] #[.pointer (some ⟨g, 0, none⟩)]] w fun e w' => e = .returned (.int .i64 (firstN (fun x => !lessK k x.f0) l : Nat)) ∧ St w0 w' (blk g (keyC k) 35 :: ps) := by
  have H := Aside0.mk h
  have HR := Aside0.mk hr
  have HL := Aside0.mk hr.1
  have HN := Aside0.mk hN
  clear h hr hN
  go_enter Try.func41, Try.ntmps41
  go_wp2_with fail
  go_loopw [5, 6, 9] (fun _ _ i wr => ∃ a : Nat, i = .int .i64 a ∧ a ≤ N ∧ Aside0 (St w0 wr (blk g (keyC k) 35 :: ps)) ∧ Aside0 (∀ j, j < a → (!lessK k (l.getD j z57).f0) = true)) (fun _ _ i _ => N - (intOf i).toNat)
  case atStart => exact ⟨0, rfl, Nat.zero_le _, H, ⟨fun j hj => absurd hj (Nat.not_lt_zero _)⟩⟩
  case round =>
    clear H
    obtain ⟨a, rfl, ha, H, HP⟩ := hrel
    by_cases hlt : a < N
    · have h2 : (a : Int) < (N : Int) := Int.ofNat_lt.2 hlt
      have h1 : decide ((a : Int) < (N : Int)) = true := decide_eq_true h2
      obtain ⟨ad, rfl, k0, k1, k2, k3⟩ := at_T57 (Kd.C_below HR.out H.out.below) (a : Int) (Int.natCast_nonneg a) h2
      rw [Int.toNat_natCast] at k0 k1 k2 k3
      have e1 := Aside0.mk (inc_k a N hlt HN.out)
      have HLT := Aside0.mk hlt
      clear ha hlt
      obtain ⟨x, hx⟩ : ∃ x, rd_T57 l (a : Int) = x := ⟨_, rfl⟩
      rw [hx] at k0 k1 k2 k3
      have HX := Aside0.mk (show l.getD a z57 = x from hx)
      clear hx
      go_wp2_with fail
      refine (node_Seek2.st x (H.out.alloc _)).mono ?_
      rintro e w' ⟨rfl, hs⟩
      have H2 := Aside0.mk hs
      clear hs H k0 k1 k2 k3 h1 h2
      obtain ⟨b, hb⟩ : ∃ b, (!lessK k x.f0) = b := ⟨_, rfl⟩
      have HB := Aside0.mk hb
      rw [hb]
      clear hb
      cases b with
      | true =>
        go_wp2_with fail
        refine ⟨⟨a + 1, by rw [e1.out], HLT.out, H2, ⟨?_⟩⟩, by rw [e1.out]; exact meas_k a N HLT.out⟩
        intro j hj
        rcases Nat.lt_succ_iff_lt_or_eq.1 hj with h | h
        · exact HP.out j h
        · rw [h, HX.out]; exact HB.out
      | false =>
        go_wp2
        go_ret
        rw [firstN_is (fun x : S57 => !lessK k x.f0) z57 l a HP.out (by rw [HL.out]; exact Nat.le_of_lt HLT.out) (Or.inr (by rw [HX.out]; exact HB.out))]
        exact ⟨rfl, H2.out⟩
    · have h2 : ¬ (a : Int) < (N : Int) := fun h => hlt (Int.ofNat_lt.1 h)
      have h1 : decide ((a : Int) < (N : Int)) = false := decide_eq_false h2
      obtain rfl : a = N := Nat.le_antisymm ha (Nat.le_of_not_lt hlt)
      clear hlt ha
      go_wp2
      go_ret
      rw [firstN_is (fun x : S57 => !lessK k x.f0) z57 l a HP.out (by rw [HL.out]; exact Nat.le_refl _) (Or.inl (by rw [HL.out]))]
      exact ⟨rfl, H.out⟩
theorem max_k0 (i : Nat) (h0 : wrap64 ((i : Int) - 1) ≤ 0) (h : i ≤ 1000) : (0 : Int) = ((i - 1 : Nat) : Int) := by unfold wrap64 at h0; omega
theorem max_k1 (i : Nat) (h0 : 0 < wrap64 ((i : Int) - 1)) (h : i ≤ 1000) : wrap64 ((i : Int) - 1) = ((i - 1 : Nat) : Int) := by unfold wrap64 at h0 ⊢; omega
theorem max_k (i : Nat) (h : i ≤ 1000) : max 0 (wrap64 ((i : Int) - 1)) = ((i - 1 : Nat) : Int) := by unfold wrap64; omega
def eqK (a b : S35) : Bool := a.f0 == b.f0 && (a.f1 == b.f1 && a.f2 == b.f2)
def node_Seek.f (a0_0 : Int) (l0_1 : List S52) (l0_2 : List S57) (a1_0 a1_1 a1_2 : Int) : Option (Int × Bool) :=
  if l0_1.length ≤ 1000 ∧ l0_2.length ≤ 1000 then
    if a0_0 = 0 then some (((firstN (fun x : S52 => lessK x.f0 ⟨a1_0, a1_1, a1_2⟩) l0_1 : Nat) : Int), decide (firstN (fun x : S52 => lessK x.f0 ⟨a1_0, a1_1, a1_2⟩) l0_1 < l0_1.length) && eqK (l0_1.getD (firstN (fun x : S52 => lessK x.f0 ⟨a1_0, a1_1, a1_2⟩) l0_1) z52).f0 ⟨a1_0, a1_1, a1_2⟩)
    else some (((firstN (fun x : S57 => !lessK ⟨a1_0, a1_1, a1_2⟩ x.f0) l0_2 - 1 : Nat) : Int), decide (firstN (fun x : S57 => !lessK ⟨a1_0, a1_1, a1_2⟩ x.f0) l0_2 - 1 < l0_2.length) && eqK (l0_2.getD (firstN (fun x : S57 => !lessK ⟨a1_0, a1_1, a1_2⟩ x.f0) l0_2 - 1) z57).f0 ⟨a1_0, a1_1, a1_2⟩)
  else none
def nodeC (a0_0 : Int) (A0_1 : Option Addr) (N c0_1 : Nat) (A0_2 : Option Addr) (M c0_2 : Nat) : Array Value := #[.int .i64 a0_0, .slice A0_1 N c0_1, .slice A0_2 M c0_2]
set_option maxHeartbeats 4000000 in
set_option maxRecDepth 100000 in
theorem node_Seek.calls (a0_0 : Int) (A0_1 : Option Addr) (c0_1 : Nat) (l0_1 : List (S52)) (A0_2 : Option Addr) (c0_2 : Nat) (l0_2 : List (S57)) (a1_0 : Int) (a1_1 : Int) (a1_2 : Int) (r1 : Int) (r2 : Bool) (w : World) (hr0_1 : Kd.C k52 w A0_1 l0_1.length l0_1) (hc0_1 : l0_1.length ≤ c0_1) (hr0_2 : Kd.C k57 w A0_2 l0_2.length l0_2) (hc0_2 : l0_2.length ≤ c0_2) (h : node_Seek.f a0_0 l0_1 l0_2 a1_0 a1_1 a1_2 = some (r1, r2)) :
    Calls Try.prog 15 #[.agg #[.int .i64 a0_0, .slice A0_1 l0_1.length c0_1, .slice A0_2 l0_2.length c0_2], .agg #[.int .i64 a1_0, .int .i64 a1_1, .int .i64 a1_2]] w fun e w' => e = .returned (.tuple #[.int .i64 r1, .bool r2]) ∧ Below w.heap.size w w' := by
  have HR1 := Aside0.mk hr0_1
  have HR2 := Aside0.mk hr0_2
  clear hr0_1 hr0_2 hc0_1 hc0_2
  rw [node_Seek.f] at h
  have hle : l0_1.length ≤ 1000 ∧ l0_2.length ≤ 1000 := by
    by_cases hq : l0_1.length ≤ 1000 ∧ l0_2.length ≤ 1000
    · exact hq
    · rw [if_neg hq] at h; cases h
  rw [if_pos hle] at h
  obtain ⟨N, hN⟩ : ∃ N, l0_1.length = N := ⟨_, rfl⟩
  obtain ⟨M, hM⟩ : ∃ M, l0_2.length = M := ⟨_, rfl⟩
  rw [hN, hM] at hle h
  rw [hN] at HR1
  rw [hM] at HR2
  have HLE := Aside0.mk hle
  clear hle
  have hmf : ∀ (fn : Fn) (first cap : Array Value) (w : World), (Instr.makeFunc fn first cap).run Try.prog w = .ok (.func fn first cap) w := fun _ _ _ _ => rfl
  have HB := Aside0.mk (((St.start w).alloc_ (nodeC a0_0 A0_1 N c0_1 A0_2 M c0_2) 25).alloc_ (keyC ⟨a1_0, a1_1, a1_2⟩) 35)
  have hsz : (w.alloc (.cells (nodeC a0_0 A0_1 N c0_1 A0_2 M c0_2) 25)).heap.size = w.heap.size + 1 := by simp
  rw [hsz] at HB
  clear hsz
  by_cases h0 : a0_0 = 0
  · subst h0
    rw [if_pos rfl] at h
    have hi := firstN_le (fun x : S52 => lessK x.f0 ⟨a1_0, a1_1, a1_2⟩) l0_1
    rw [hN] at hi
    obtain ⟨i, hie⟩ : ∃ i, firstN (fun x : S52 => lessK x.f0 ⟨a1_0, a1_1, a1_2⟩) l0_1 = i := ⟨_, rfl⟩
    rw [hie] at h hi
    have HI := Aside0.mk hie
    have HII := Aside0.mk hi
    have H := Aside0.mk h
    rw [hN, hM]
    clear h hN hM hie hi
    go_enter Try.func15, Try.ntmps15
    go_wp2_with fail
    refine (seek_Item.st (k := ⟨a1_0, a1_1, a1_2⟩) A0_1 N c0_1 l0_1 HR1.out (by have := HLE.out; omega) HB.out).mono ?_
    rintro e w1 ⟨rfl, hs⟩
    rw [HI.out]
    obtain ⟨k0, k1, k2⟩ := keyC_cells hs
    have hbn := hs.drop.blk_is
    have n1 : w1.cell? ⟨w.heap.size, 1, none⟩ = some (.slice A0_1 N c0_1) := blk_cell hbn 1
    have n2 : w1.cell? ⟨w.heap.size, 2, none⟩ = some (.slice A0_2 M c0_2) := blk_cell hbn 2
    have HS := Aside0.mk hs
    have HC := Aside0.mk (Kd.C_below HR1.out hs.below)
    clear hs hbn
    by_cases hlt : i < N
    · have h2 : (i : Int) < (N : Int) := Int.ofNat_lt.2 hlt
      have h1 : decide ((i : Int) < (N : Int)) = true := decide_eq_true h2
      obtain ⟨ad, A3, c3, rfl, q0, q1, q2, q3, _, _⟩ := at_T52 HC.out (i : Int) (Int.natCast_nonneg i) h2
      obtain ⟨x, hx⟩ : ∃ x, rd_T52 l0_1 (i : Int) = x := ⟨_, rfl⟩
      have HX := Aside0.mk (show l0_1.getD i z52 = x from hx)
      have HLT := Aside0.mk hlt
      rw [hx] at q0 q1 q2 q3
      rw [Int.toNat_natCast] at q0 q1 q2 q3
      clear hx hlt
      go_wp2_with fail
      go_quiet (fail)
      go_wp2
      go_ret2
      have h := H.out
      rw [HX.out, decide_eq_true HLT.out, Bool.true_and] at h
      injection h with h
      injection h with hh1 hh2
      subst hh1 hh2
      exact ⟨rfl, (HS.out.drewN _).below⟩
    · have h2 : ¬ (i : Int) < (N : Int) := fun h => hlt (Int.ofNat_lt.1 h)
      have h1 : decide ((i : Int) < (N : Int)) = false := decide_eq_false h2
      have HLT := Aside0.mk hlt
      have h3 : decide (i < N) = false := decide_eq_false hlt
      have h4 : N ≤ i := Nat.le_of_not_lt hlt
      go_wp2_with fail
      go_quiet (fail)
      go_wp2
      go_ret2
      have h := H.out
      rw [decide_eq_false HLT.out, Bool.false_and] at h
      injection h with h
      injection h with hh1 hh2
      subst hh1 hh2
      exact ⟨rfl, (HS.out.drewN _).below⟩
  · rw [if_neg h0] at h
    have h9 : decide (a0_0 = 0) = false := decide_eq_false h0
    have h8 : (a0_0 == 0) = false := by rw [beq_eq_false_iff_ne]; exact h0
    have hi := firstN_le (fun x : S57 => !lessK ⟨a1_0, a1_1, a1_2⟩ x.f0) l0_2
    rw [hM] at hi
    obtain ⟨i, hie⟩ : ∃ i, firstN (fun x : S57 => !lessK ⟨a1_0, a1_1, a1_2⟩ x.f0) l0_2 = i := ⟨_, rfl⟩
    rw [hie] at h hi
    have HI := Aside0.mk hie
    have HII := Aside0.mk hi
    have H := Aside0.mk h
    rw [hN, hM]
    clear h hN hM hie hi
    go_enter Try.func15, Try.ntmps15
    go_wp2_with fail
    refine (seek_Kid.st (k := ⟨a1_0, a1_1, a1_2⟩) A0_2 M c0_2 l0_2 HR2.out (by have := HLE.out; omega) HB.out).mono ?_
    rintro e w1 ⟨rfl, hs⟩
    rw [HI.out]
    obtain ⟨k0, k1, k2⟩ := keyC_cells hs
    have hbn := hs.drop.blk_is
    have n1 : w1.cell? ⟨w.heap.size, 1, none⟩ = some (.slice A0_1 N c0_1) := blk_cell hbn 1
    have n2 : w1.cell? ⟨w.heap.size, 2, none⟩ = some (.slice A0_2 M c0_2) := blk_cell hbn 2
    have HS := Aside0.mk hs
    have HC := Aside0.mk (Kd.C_below HR2.out hs.below)
    clear hs hbn
    obtain ⟨j, hj⟩ : ∃ j, i - 1 = j := ⟨_, rfl⟩
    have HJ := Aside0.mk hj
    clear hj
    go_upto_region 5 with fail
    go_cut [7] (fun u wx => u = .int .i64 (j : Int) ∧ w1 = wx)
    case first =>
      go_wp2_with fail
      · go_meet
        exact ⟨by rw [max_k1 i h (Nat.le_trans HII.out HLE.out.2), HJ.out], rfl⟩
      · go_meet
        exact ⟨by rw [max_k0 i h (Nat.le_trans HII.out HLE.out.2), HJ.out], rfl⟩
    case rest =>
    obtain ⟨rfl, rfl⟩ := hcut
    by_cases hlt : j < M
    · have h2 : (j : Int) < (M : Int) := Int.ofNat_lt.2 hlt
      have h1 : decide ((j : Int) < (M : Int)) = true := decide_eq_true h2
      obtain ⟨ad, rfl, q0, q1, q2, q3⟩ := at_T57 HC.out (j : Int) (Int.natCast_nonneg j) h2
      obtain ⟨x, hx⟩ : ∃ x, rd_T57 l0_2 (j : Int) = x := ⟨_, rfl⟩
      have HX := Aside0.mk (show l0_2.getD j z57 = x from hx)
      have HLT := Aside0.mk hlt
      rw [hx] at q0 q1 q2 q3
      rw [Int.toNat_natCast] at q0 q1 q2 q3
      clear hx hlt
      go_wp2_with fail
      go_quiet (fail)
      go_wp2
      go_ret2
      have h := H.out
      rw [HJ.out, HX.out, decide_eq_true HLT.out, Bool.true_and] at h
      injection h with h
      injection h with hh1 hh2
      subst hh1 hh2
      exact ⟨rfl, (HS.out.drewN _).below⟩
    · have h2 : ¬ (j : Int) < (M : Int) := fun h => hlt (Int.ofNat_lt.1 h)
      have h1 : decide ((j : Int) < (M : Int)) = false := decide_eq_false h2
      have HLT := Aside0.mk hlt
      have h3 : decide (j < M) = false := decide_eq_false hlt
      have h4 : M ≤ j := Nat.le_of_not_lt hlt
      go_wp2_with fail
      go_quiet (fail)
      go_wp2
      go_ret2
      have h := H.out
      rw [HJ.out, decide_eq_false HLT.out, Bool.false_and] at h
      injection h with h
      injection h with hh1 hh2
      subst hh1 hh2
      exact ⟨rfl, (HS.out.drewN _).below⟩
end
/-! ### end of GIVEN -/
/-! ### GIVEN cambiumlaw06_shown: function 9 -/
/-- The document's example, and its block. -/
def shownI : S52 := ⟨⟨1, 2, 3⟩, [97, 98]⟩
def shownB : List Int := [1, 76, 18, 254] ++ ([3, 0, 0, 5, 0, 1, 0, 0, 0, 0, 7, 0, 0, 0, 0, 0, 0, 0, 0, 1, 2, 0, 0, 0, 3, 2, 97, 98] ++ List.replicate 224 0)
theorem shownB_len : shownB.length = 256 := by decide +kernel
theorem shownB_mid : (shownB.take 33).drop 20 = [0, 0, 0, 1, 2, 0, 0, 0, 3, 2, 97, 98, 0] := by decide +kernel
theorem shown_write : node_Write.f 100 0 [shownI] [] 5 7 = some (shownB, 0) := by decide +kernel
theorem shown_seek1 : node_Seek.f 0 [shownI] [] 1 2 3 = some (0, true) := by decide +kernel
theorem shown_seek2 : node_Seek.f 0 [shownI] [] 1 2 4 = some (1, false) := by decide +kernel
def shownC (g : Nat) : Array Value := #[.int .i64 1, .int .i64 2, .int .i64 3, .slice (some ⟨g, 0, none⟩) 2 2]
def shownN (g : Nat) : Array Value := #[.int .i64 0, .slice (some ⟨g, 0, none⟩) 1 1, .slice none 0 0]
theorem shown_row {W : World} {g b : Nat} (h : W.heap[b]? = some (.cells (shownC g) 52 (0, 0))) (hr : Kd.C (Kd.int .u8) W (some ⟨g, 0, none⟩) 2 [97, 98]) : Kd.C k52 W (some ⟨b, 0, none⟩) [shownI].length [shownI] := by
  refine ⟨rfl, by decide, fun _ => ⟨_, rfl, fun j p hj => ?_⟩⟩
  obtain rfl : j = 0 := by
    have := (List.getElem?_eq_some_iff.1 hj).1
    simpa using this
  obtain rfl : shownI = p := by simpa using hj
  refine ⟨[.int .i64 1, .int .i64 2, .int .i64 3, .slice (some ⟨g, 0, none⟩) 2 2], rfl, ⟨_, _, rfl, ⟨_, _, rfl, rfl, ⟨_, _, rfl, rfl, rfl⟩⟩, ⟨some ⟨g, 0, none⟩, 2, rfl, by decide, hr⟩⟩, fun i u hu => ?_⟩
  have hc := blk_cell h i
  rw [show 0 * k52.sz + i = i from by rw [Nat.zero_mul, Nat.zero_add], show (⟨b, 0, none⟩ : Addr).add i = ⟨b, i, none⟩ from by by_cases h0 : i = 0 <;> simp [Addr.add, h0], hc, ← hu]
  simp only [shownC, List.getElem?_toArray]
def cambiumlaw06_shown.f : Option Bool := some true
set_option maxHeartbeats 2000000 in
theorem cambiumlaw06_shown.calls (r : Bool) (w : World) (h : cambiumlaw06_shown.f = some r) :
    Calls Try.prog 9 #[] w fun e w' => e = .returned (.bool r) ∧ Below w.heap.size w w' := by
  obtain rfl : true = r := by injection h
  clear h
  have S1 := Aside0.mk shown_write
  have S2 := Aside0.mk shown_seek1
  have S3 := Aside0.mk shown_seek2
  have L1 := Aside0.mk shownB_len
  have M1 := Aside0.mk shownB_mid
  have SR := Aside0.mk @shown_row
  generalize shownB = B at *
  have kc := fun (w : World) (C : Array Value) (n c : Nat) => Lib.run_convert_bytes_const (P := Try.prog) w 29 5 C n c Try.underlying29 Try.underlying5
  obtain ⟨w1, hw1⟩ : ∃ w1, w.alloc (.cells #[.int .u8 97, .int .u8 98] 5 (2, 3)) = w1 := ⟨_, rfl⟩
  have HB1 := Aside0.mk (show Below w.heap.size w w1 from hw1 ▸ below_alloc (Below.refl _ _) _)
  have HR1 := Aside0.mk (show Kd.C (Kd.int .u8) w1 (some ⟨w.heap.size, 0, none⟩) 2 [97, 98] from hw1 ▸ Own.marked_reads w 5 [97, 98] #[.int .u8 97, .int .u8 98] (2, 3) rfl (by decide))
  obtain ⟨w2, hw2⟩ : ∃ w2, w1.alloc (.cells (shownC w.heap.size) 52) = w2 := ⟨_, rfl⟩
  have HB2 := Aside0.mk (show Below w.heap.size w w2 from hw2 ▸ HB1.out.alloc HB1.out.size _)
  have HR2 := Aside0.mk (show Kd.C k52 w2 (some ⟨w1.heap.size, 0, none⟩) [shownI].length [shownI] from SR.out (by rw [← hw2]; exact heap_alloc_new _ _) (by rw [← hw2]; exact Kd.C_alloc HR1.out _))
  obtain ⟨w3, hw3⟩ : ∃ w3, w2.alloc (.cells (shownN w1.heap.size) 25) = w3 := ⟨_, rfl⟩
  have HB3 := Aside0.mk (show Below w.heap.size w w3 from hw3 ▸ HB2.out.alloc HB2.out.size _)
  have HR3 := Aside0.mk (show Kd.C k52 w3 (some ⟨w1.heap.size, 0, none⟩) [shownI].length [shownI] from hw3 ▸ Kd.C_alloc HR2.out _)
  have HN3 := Aside0.mk (show w3.heap[w2.heap.size]? = some (.cells (shownN w1.heap.size) 25 (0, 0)) from by rw [← hw3]; exact heap_alloc_new _ _)
  unfold shownC at hw2
  unfold shownN at hw3
  have HW3 := Aside0.mk hw3
  clear hw3
  clear HB1 HR1 HB2 HR2 SR
  go_enter Try.func9, Try.ntmps9
  go_wp2_with fail
  rw [HW3.out]
  refine (node_Write.calls 100 0 (some ⟨w1.heap.size, 0, none⟩) 1 [shownI] none 0 [] 5 7 B 0 w3 HR3.out (by decide) (Kd.C_nil _ _) (by decide) S1.out).mono ?_
  rintro e w4 ⟨v1, rfl, ho, hb⟩
  obtain ⟨A1, c1, he1, hc1, hC1⟩ := Kd.R_reads ho
  subst he1
  have HB4 := Aside0.mk (below_step HB3.out hb)
  have HR4 := Aside0.mk (Kd.C_below HR3.out hb)
  have HN4 := Aside0.mk (blk_below HN3.out hb)
  have HA4 := Aside0.mk hC1
  have HC4 := Aside0.mk hc1
  clear ho hb hc1 hC1 HB3 HR3 HN3
  have hl1 : ((B.length : Int) != 256) = false := by rw [L1.out]; rfl
  have n0 : w4.cell? ⟨w2.heap.size, 0, none⟩ = some (.int .i64 0) := blk_cell HN4.out 0
  have n1 : w4.cell? ⟨w2.heap.size, 1, none⟩ = some (.slice (some ⟨w1.heap.size, 0, none⟩) 1 1) := blk_cell HN4.out 1
  have n2 : w4.cell? ⟨w2.heap.size, 2, none⟩ = some (.slice none 0 0) := blk_cell HN4.out 2
  go_wp2_with fail
  refine (node_Seek.calls 0 (some ⟨w1.heap.size, 0, none⟩) 1 [shownI] none 0 [] 1 2 3 0 true w4 HR4.out (by decide) (Kd.C_nil _ _) (by decide) S2.out).mono ?_
  rintro e w5 ⟨rfl, hb⟩
  have HB5 := Aside0.mk (below_step HB4.out hb)
  have HR5 := Aside0.mk (Kd.C_below HR4.out hb)
  have HN5 := Aside0.mk (blk_below HN4.out hb)
  have HA5 := Aside0.mk (Kd.C_below HA4.out hb)
  clear hb HB4 HR4 HN4 HA4 n0 n1 n2
  have n0 : w5.cell? ⟨w2.heap.size, 0, none⟩ = some (.int .i64 0) := blk_cell HN5.out 0
  have n1 : w5.cell? ⟨w2.heap.size, 1, none⟩ = some (.slice (some ⟨w1.heap.size, 0, none⟩) 1 1) := blk_cell HN5.out 1
  have n2 : w5.cell? ⟨w2.heap.size, 2, none⟩ = some (.slice none 0 0) := blk_cell HN5.out 2
  go_wp2_with fail
  refine (node_Seek.calls 0 (some ⟨w1.heap.size, 0, none⟩) 1 [shownI] none 0 [] 1 2 4 1 false w5 HR5.out (by decide) (Kd.C_nil _ _) (by decide) S3.out).mono ?_
  rintro e w6 ⟨rfl, hb⟩
  have HB6 := Aside0.mk (below_step HB5.out hb)
  have HA6 := Aside0.mk (Kd.C_below HA5.out hb)
  clear hb HB5 HR5 HN5 HA5 n0 n1 n2
  have hbl := L1.out
  have hbc := HC4.out
  obtain ⟨i0, hi0, _, hs0, _⟩ := info_parts info5
  have hcut0 := cut_mid (P := Try.prog) 29 5 .i64 .i64 Try.underlying29 hi0 1 hs0 A1 B.length c1 20 33 (by omega) (by omega) (by omega) hbc
  have hr0 := Kd.C_mid (lo := 20) (hi := 33) (c := c1) HA6.out (by omega) (by omega) hbc
  have hA0 : (if c1 = (20 : Int).toNat then A1 else A1.map (·.add ((20 : Int).toNat * 1))) = (if c1 = 20 then A1 else A1.map (·.add (20 * (Kd.int IntKind.u8).sz))) := rfl
  rw [hA0] at hcut0
  generalize (if c1 = 20 then A1 else A1.map (·.add (20 * (Kd.int IntKind.u8).sz))) = A4 at *
  rw [M1.out] at hr0
  have hcut : ∀ W : World, (Instr.slice 29 (.slice A1 B.length c1) (some (.int .i64 20)) (some (.int .i64 33)) none).run Try.prog W = .ok (.slice A4 13 (c1 - 20)) W := hcut0
  have e1 : strOfNums [0, 0, 0, 1, 2, 0, 0, 0, 3, 2, 97, 98, 0] = ⟨#[0, 0, 0, 1, 2, 0, 0, 0, 3, 2, 97, 98, 0]⟩ := by decide +kernel
  have hstr : (convert 29 9 (.slice A4 13 (c1 - 20))).run Try.prog w6 = .ok (.string ⟨#[0, 0, 0, 1, 2, 0, 0, 0, 3, 2, 97, 98, 0]⟩) w6 := by rw [← e1]; exact Kd.C_string (c := c1 - 20) (P := Try.prog) Try.underlying29 Try.underlying5 Try.underlying9 hr0
  have hbm : 33 ≤ c1 := by omega
  clear hi0 hs0 hcut0 hA0 hr0 e1 hbl hbc
  go_wp2
  go_ret
  exact ⟨rfl, HB6.out⟩
/-! ### end of GIVEN -/
/-! ### cambiumlaw06_few: function 10 -/
def cambiumlaw06_few.f (a0_0 : Int) (l0_1 : List (S52)) (l0_2 : List (S57)) : Option (Int × (List (S52)) × (List (S57))) := if (l0_1.length : Int) > 20 then (if 20 ≤ (l0_1.length : Int) then ((some (l0_1.take 20 : List (S52))).bind fun y207 => (if (l0_2.length : Int) > 20 then (if 20 ≤ (l0_2.length : Int) then (some (a0_0, y207, (l0_2.take 20))) else (none)) else (some (a0_0, y207, l0_2)))) else (none)) else (if (l0_2.length : Int) > 20 then (if 20 ≤ (l0_2.length : Int) then (some (a0_0, l0_1, (l0_2.take 20))) else (none)) else (some (a0_0, l0_1, l0_2)))
set_option maxHeartbeats 8000000 in
set_option maxRecDepth 100000 in
theorem cambiumlaw06_few.calls (a0_0 : Int) (P0_1_ : Nat → Prop) (A0_1 : Option Addr) (c0_1 : Nat) (l0_1 : List (S52)) (P0_2_ : Nat → Prop) (A0_2 : Option Addr) (c0_2 : Nat) (l0_2 : List (S57)) (r1 : Int) (r2 : List (S52)) (r3 : List (S57)) (w : World) (hs0_1 : Kd.V k52 52 w w.heap.size (fun k_ => P0_1_ k_) (.slice A0_1 l0_1.length c0_1) l0_1) (hs0_2 : Kd.V k57 57 w w.heap.size (fun k_ => P0_2_ k_) (.slice A0_2 l0_2.length c0_2) l0_2) (h : cambiumlaw06_few.f a0_0 l0_1 l0_2 = some (r1, r2, r3)) :
    Calls Try.prog 10 #[.agg #[.int .i64 a0_0, .slice A0_1 l0_1.length c0_1, .slice A0_2 l0_2.length c0_2]] w fun e w' => ∃ v1_ v2_ : Value, e = .returned (.agg #[.int .i64 r1, v1_, v2_]) ∧ Kd.V k52 52 w' w.heap.size (fun k_ => ((P0_1_ k_ ∨ P0_2_ k_) ∨ w.heap.size ≤ k_)) v1_ r2 ∧ Kd.V k57 57 w' w.heap.size (fun k_ => ((P0_1_ k_ ∨ P0_2_ k_) ∨ w.heap.size ≤ k_)) v2_ r3 ∧ Below w.heap.size w w' := by
  have hu25 := Try.underlying25
  have HO0_1 := Aside0.mk (show Kd.V k52 52 w w.heap.size (fun k_ => ((P0_1_ k_ ∨ P0_2_ k_) ∨ w.heap.size ≤ k_)) (.slice A0_1 l0_1.length c0_1) l0_1 from Kd.V_mono hs0_1 (fun k_ hk => .inl (.inl hk)))
  have HO0_2 := Aside0.mk (show Kd.V k57 57 w w.heap.size (fun k_ => ((P0_1_ k_ ∨ P0_2_ k_) ∨ w.heap.size ≤ k_)) (.slice A0_2 l0_2.length c0_2) l0_2 from Kd.V_mono hs0_2 (fun k_ hk => .inl (.inr hk)))
  have HB := Aside0.mk (Below.refl w.heap.size w)
  have H : (if (l0_1.length : Int) > 20 then (if 20 ≤ (l0_1.length : Int) then ((some (l0_1.take 20 : List (S52))).bind fun y207 => (if (l0_2.length : Int) > 20 then (if 20 ≤ (l0_2.length : Int) then (some (a0_0, y207, (l0_2.take 20))) else (none)) else (some (a0_0, y207, l0_2)))) else (none)) else (if (l0_2.length : Int) > 20 then (if 20 ≤ (l0_2.length : Int) then (some (a0_0, l0_1, (l0_2.take 20))) else (none)) else (some (a0_0, l0_1, l0_2)))) = some (r1, r2, r3) := h
  clear h
  by_cases c2 : (l0_1.length : Int) > 20
  · rw [if_pos c2] at H
    have c2b0 : decide (20 < (l0_1.length : Int)) = true := decide_eq_true c2
    have c2b1 : decide (20 < l0_1.length) = true := decide_eq_true (by omega)
    clear c2
    by_cases c3 : 20 ≤ (l0_1.length : Int)
    · rw [if_pos c3] at H
      have c3b0 := eq_true c3
      have c3b1 : decide (20 ≤ (l0_1.length : Int)) = true := decide_eq_true c3
      clear c3
      obtain ⟨y207, hy207⟩ : ∃ y_ : List (S52), y_ = (l0_1.take 20) := ⟨_, rfl⟩
      replace H : (if (l0_2.length : Int) > 20 then (if 20 ≤ (l0_2.length : Int) then (some (a0_0, y207, (l0_2.take 20))) else (none)) else (some (a0_0, y207, l0_2))) = some (r1, r2, r3) := by first | (rw [hy207]; with_reducible exact H) | (have H2_ := (Option.bind_some _ _).symm.trans H; rw [hy207]; with_reducible exact H2_) | (have H2_ := (Option.bind_some _ _).symm.trans H; with_reducible exact H2_) | with_reducible exact H | (rw [hy207]; exact H) | exact H
      have Ny207 := Aside0.mk hy207
      clear hy207
      by_cases c4 : (l0_2.length : Int) > 20
      · rw [if_pos c4] at H
        have c4b0 : decide (20 < (l0_2.length : Int)) = true := decide_eq_true c4
        have c4b1 : decide (20 < l0_2.length) = true := decide_eq_true (by omega)
        clear c4
        by_cases c5 : 20 ≤ (l0_2.length : Int)
        · rw [if_pos c5] at H
          have c5b0 := eq_true c5
          have c5b1 : decide (20 ≤ (l0_2.length : Int)) = true := decide_eq_true c5
          clear c5
          obtain ⟨y212, hy212⟩ : ∃ y_ : List (S57), y_ = (l0_2.take 20) := ⟨_, rfl⟩
          replace H : (some (a0_0, y207, y212)) = some (r1, r2, r3) := by first | (rw [hy212]; with_reducible exact H) | (have H2_ := (Option.bind_some _ _).symm.trans H; rw [hy212]; with_reducible exact H2_) | (have H2_ := (Option.bind_some _ _).symm.trans H; with_reducible exact H2_) | with_reducible exact H | (rw [hy212]; exact H) | exact H
          have Ny212 := Aside0.mk hy212
          clear hy212
          simp only [Option.some.injEq, Prod.mk.injEq] at H
          obtain ⟨rfl, rfl, rfl⟩ := H
          go_enter Try.func10, Try.ntmps10
          go_wp2_with (first | ((with_reducible refine gate_dst (N := 1) rfl ?_); refine box_event ?hg (N := 1) ?hd (cs := #[.int .i64 a0_0, .slice A0_1 l0_1.length c0_1, .slice A0_2 l0_2.length c0_2]) (t := 25) ?hr ?_; (case hd => rfl); (case hg => rfl); (case hr => first | (go_simp; done) | (go_simp; rfl)); intro gb205 hg w6 hbox hb; have n0_ := Aside0.mk (Kd.V_below (Kd.V_elderB (by (with_reducible repeat (first | apply Kd.V_alloc | apply Kd.V_drewN | apply Kd.V_drew)); exact HO0_1.out) gb205 (Nat.le_of_eq hg.symm)) hb); have n1_ := Aside0.mk (Kd.V_below (Kd.V_elderB (by (with_reducible repeat (first | apply Kd.V_alloc | apply Kd.V_drewN | apply Kd.V_drew)); exact HO0_2.out) gb205 (Nat.le_of_eq hg.symm)) hb); have n2_ := Aside0.mk (below_step (by repeat (first | (with_reducible first | exact HB.out | apply below_alloc | apply pw_below_drewN | apply below_drew1) | exact HB.out)) hb); have n3_ := Aside0.mk (hbox); have n4_ := Aside0.mk ((by rw [hg]; exact (below_size (by repeat (first | (with_reducible first | exact HB.out | apply below_alloc | apply pw_below_drewN | apply below_drew1) | exact HB.out))) : w.heap.size ≤ gb205)); have n5_ := Aside0.mk ((by rw [hg]; exact (below_size (by repeat (first | (with_reducible first | exact HB.out | apply below_alloc | apply pw_below_drewN | apply below_drew1) | exact HB.out))) : w.heap.size ≤ gb205)); clear HO0_1; clear HO0_2; clear HB; have HO0_1 := n0_; have HO0_2 := n1_; have HB := n2_; have BK205 := n3_; have GW205 := n4_; have GE205 := n5_; clear n0_ n1_ n2_ n3_ n4_ n5_; clear hb hbox hg) | ((with_reducible refine gate_dst (N := 2) rfl ?_); refine box_event ?hg (N := 2) ?hd (cs := #[.int .i64 0, .slice none 0 0, .slice none 0 0]) (t := 25) ?hr ?_; (case hd => rfl); (case hg => rfl); (case hr => first | (go_simp; done) | (go_simp; rfl)); intro gb206 hg w7 hbox hb; have n0_ := Aside0.mk (Kd.V_below (Kd.V_elderB (by (with_reducible repeat (first | apply Kd.V_alloc | apply Kd.V_drewN | apply Kd.V_drew)); exact HO0_1.out) gb206 (Nat.le_of_eq hg.symm)) hb); have n1_ := Aside0.mk (Kd.V_below (Kd.V_elderB (by (with_reducible repeat (first | apply Kd.V_alloc | apply Kd.V_drewN | apply Kd.V_drew)); exact HO0_2.out) gb206 (Nat.le_of_eq hg.symm)) hb); have n2_ := Aside0.mk (blk_below (g := gb205) (o := .cells #[.int .i64 a0_0, .slice A0_1 l0_1.length c0_1, .slice A0_2 l0_2.length c0_2] 25 (0, 0)) (by (with_reducible repeat (first | refine blk_drewN ?_ _ | refine blk_drew ?_ | refine blk_alloc ?_ _)); exact BK205.out) hb); have n3_ := Aside0.mk (below_step (by repeat (first | (with_reducible first | exact HB.out | apply below_alloc | apply pw_below_drewN | apply below_drew1 | refine below_set ?_ GE205.out) | exact HB.out)) hb); have n4_ := Aside0.mk (hbox); have n5_ := Aside0.mk ((by rw [hg]; exact (below_size (by repeat (first | (with_reducible first | exact HB.out | apply below_alloc | apply pw_below_drewN | apply below_drew1 | refine below_set ?_ GE205.out) | exact HB.out))) : w.heap.size ≤ gb206)); have n6_ := Aside0.mk ((by rw [hg]; exact (below_size (by repeat (first | (with_reducible first | exact HB.out | apply below_alloc | apply pw_below_drewN | apply below_drew1 | refine below_set ?_ GE205.out) | exact HB.out))) : w.heap.size ≤ gb206)); have n7_ := Aside0.mk ((by rw [hg]; exact Nat.ne_of_lt (blk_lt (g := gb205) (o := .cells #[.int .i64 a0_0, .slice A0_1 l0_1.length c0_1, .slice A0_2 l0_2.length c0_2] 25 (0, 0)) (by (with_reducible repeat (first | refine blk_drewN ?_ _ | refine blk_drew ?_ | refine blk_alloc ?_ _)); exact BK205.out)) : gb205 ≠ gb206)); have n8_ := Aside0.mk ((by rw [hg]; exact Nat.ne_of_gt (blk_lt (g := gb205) (o := .cells #[.int .i64 a0_0, .slice A0_1 l0_1.length c0_1, .slice A0_2 l0_2.length c0_2] 25 (0, 0)) (by (with_reducible repeat (first | refine blk_drewN ?_ _ | refine blk_drew ?_ | refine blk_alloc ?_ _)); exact BK205.out)) : gb206 ≠ gb205)); clear HO0_1; clear HO0_2; clear BK205; clear HB; have HO0_1 := n0_; have HO0_2 := n1_; have BK205 := n2_; have HB := n3_; have BK206 := n4_; have GW206 := n5_; have GE206 := n6_; have NB205_206 := n7_; have NB206_205 := n8_; clear n0_ n1_ n2_ n3_ n4_ n5_ n6_ n7_ n8_; clear hb hbox hg; have hnb8 := NB205_206.out; have hnc8 := NB206_205.out; have hcz9_0 : w7.cell? ⟨gb205, 0, none⟩ = some (.int .i64 a0_0) := (blk_cell BK205.out 0).trans rfl; have hcz9_1 : w7.cell? ⟨gb205, 1, none⟩ = some (.slice A0_1 l0_1.length c0_1) := (blk_cell BK205.out 1).trans rfl; have hcz9_2 : w7.cell? ⟨gb205, 2, none⟩ = some (.slice A0_2 l0_2.length c0_2) := (blk_cell BK205.out 2).trans rfl; have hfz9_0 := blk_frozen BK205.out 0; have hfz9_1 := blk_frozen BK205.out 1; have hfz9_2 := blk_frozen BK205.out 2; have q10 : (20 : Int) ≤ ((l0_1.length : Int) : Int) := of_decide_eq_true (by first | (with_reducible assumption) | assumption); obtain ⟨i010, hi010, _, hsz10, _⟩ := info_parts info52; have hroom10 : l0_1.length ≤ c0_1 := (Kd.V_reads' HO0_1.out).2.1; have hC10 : Kd.F k52 _ _ A0_1 l0_1.length l0_1 := (Kd.V_at (base := w.heap.size) HO0_1.out).2.2; have hcut10 := cut_to (P := Try.prog) 22 52 .i64 Try.underlying22 hi010 A0_1 l0_1.length c0_1 20 (by omega) q10 hroom10; have hr10 := Kd.F_take (m := 20) hC10 (by omega); have hy10 : y207.length = (20 : Int).toNat := (by rw [Ny207.out, List.length_take]; omega); rw [← Ny207.out] at hr10; rw [← hy10] at hcut10; have HO211 := Aside0.mk (show Kd.V k52 52 _ w.heap.size _ (.slice A0_1 y207.length c0_1) y207 from Kd.V_mk (by omega) hr10); have HC211 := Aside0.mk (show y207.length ≤ c0_1 from by omega); clear hr10 hC10 hroom10 hi010 hsz10; have KY10 := Aside0.mk hy10; clear hy10; replace q10 := eq_true q10) | ((with_reducible refine gate_store (t := 22) (p := 10) rfl ?_); refine store_event (t := 22) (p := 10) (v := ?vo_w11) (w1 := (w7.setCell ⟨gb205, 1, none⟩ (.slice A0_1 y207.length c0_1))) ?hg ?ho ?hn ?hr ?_; (case ho => rfl); (case hg => rfl); (case hn => rfl); (case hr => first | (go_simp; done) | (go_simp; rfl)); intro w11 hw; have n0_ : Aside0 (Kd.V k52 52 w11 w.heap.size (fun k_ => ((P0_1_ k_ ∨ P0_2_ k_) ∨ w.heap.size ≤ k_) ∧ k_ ≠ gb205 ∧ k_ ≠ gb206) (.slice A0_1 l0_1.length c0_1) l0_1) := ⟨(by rw [hw]; exact (by (with_reducible repeat (first | apply Kd.V_alloc | apply Kd.V_drewN | apply Kd.V_drew)); exact Kd.V_mono (Kd.V_far (p := ⟨gb205, 1, none⟩) (Kd.V_mono HO0_1.out (fun k_ hk => (⟨hk, hk.1.2⟩ : _ ∧ k_ ≠ gb205))) (fun _ hk => hk.2) (.slice A0_1 y207.length c0_1)) (fun _ hk => ⟨hk.1.1.1, ⟨hk.1.1.2, hk.1.2⟩⟩)))⟩; have n1_ : Aside0 (Kd.V k57 57 w11 w.heap.size (fun k_ => ((P0_1_ k_ ∨ P0_2_ k_) ∨ w.heap.size ≤ k_) ∧ k_ ≠ gb205 ∧ k_ ≠ gb206) (.slice A0_2 l0_2.length c0_2) l0_2) := ⟨(by rw [hw]; exact (by (with_reducible repeat (first | apply Kd.V_alloc | apply Kd.V_drewN | apply Kd.V_drew)); exact Kd.V_mono (Kd.V_far (p := ⟨gb205, 1, none⟩) (Kd.V_mono HO0_2.out (fun k_ hk => (⟨hk, hk.1.2⟩ : _ ∧ k_ ≠ gb205))) (fun _ hk => hk.2) (.slice A0_1 y207.length c0_1)) (fun _ hk => ⟨hk.1.1.1, ⟨hk.1.1.2, hk.1.2⟩⟩)))⟩; have n2_ : Aside0 (Kd.V k52 52 w11 w.heap.size (fun k_ => ((P0_1_ k_ ∨ P0_2_ k_) ∨ w.heap.size ≤ k_) ∧ k_ ≠ gb205 ∧ k_ ≠ gb206) (.slice A0_1 y207.length c0_1) y207) := ⟨(by rw [hw]; exact (by (with_reducible repeat (first | apply Kd.V_alloc | apply Kd.V_drewN | apply Kd.V_drew)); exact Kd.V_mono (Kd.V_far (p := ⟨gb205, 1, none⟩) (Kd.V_mono HO211.out (fun k_ hk => (⟨hk, hk.1.2⟩ : _ ∧ k_ ≠ gb205))) (fun _ hk => hk.2) (.slice A0_1 y207.length c0_1)) (fun _ hk => ⟨hk.1.1.1, ⟨hk.1.1.2, hk.1.2⟩⟩)))⟩; have n3_ : Aside0 (w11.heap[gb205]? = some (.cells #[.int .i64 a0_0, .slice A0_1 y207.length c0_1, .slice A0_2 l0_2.length c0_2] 25 (0, 0))) := ⟨(by rw [hw]; exact (by (with_reducible repeat (first | refine blk_drewN ?_ _ | refine blk_drew ?_ | refine blk_alloc ?_ _)); refine blk_put (cs := #[.int .i64 a0_0, .slice A0_1 l0_1.length c0_1, .slice A0_2 l0_2.length c0_2]) ?_ 1 _ rfl; (with_reducible repeat (first | refine blk_drewN ?_ _ | refine blk_drew ?_ | refine blk_alloc ?_ _)); exact BK205.out))⟩; have n4_ : Aside0 (w11.heap[gb206]? = some (.cells #[.int .i64 0, .slice none 0 0, .slice none 0 0] 25 (0, 0))) := ⟨(by rw [hw]; exact (by (with_reducible repeat (first | refine blk_drewN ?_ _ | refine blk_drew ?_ | refine blk_alloc ?_ _)); refine blk_far ?_ NB206_205.out _; (with_reducible repeat (first | refine blk_drewN ?_ _ | refine blk_drew ?_ | refine blk_alloc ?_ _)); exact BK206.out))⟩; have n5_ : Aside0 (Below w.heap.size w w11) := ⟨(by rw [hw]; exact (by repeat (first | (with_reducible first | exact HB.out | apply below_alloc | apply pw_below_drewN | apply below_drew1 | refine below_set ?_ GE205.out | refine below_set ?_ GE206.out) | exact HB.out)))⟩; clear hw; clear HO0_1; clear HO0_2; clear HO211; clear BK205; clear BK206; clear HB; have HO0_1 := n0_; have HO0_2 := n1_; have HO211 := n2_; have BK205 := n3_; have BK206 := n4_; have HB := n5_; clear n0_ n1_ n2_ n3_ n4_ n5_; have hcz12_0 : w11.cell? ⟨gb205, 0, none⟩ = some (.int .i64 a0_0) := (blk_cell BK205.out 0).trans rfl; have hcz12_1 : w11.cell? ⟨gb205, 1, none⟩ = some (.slice A0_1 y207.length c0_1) := (blk_cell BK205.out 1).trans rfl; have hcz12_2 : w11.cell? ⟨gb205, 2, none⟩ = some (.slice A0_2 l0_2.length c0_2) := (blk_cell BK205.out 2).trans rfl; have hfz12_0 := blk_frozen BK205.out 0; have hfz12_1 := blk_frozen BK205.out 1; have hfz12_2 := blk_frozen BK205.out 2; have q13 : (20 : Int) ≤ ((l0_2.length : Int) : Int) := of_decide_eq_true (by first | (with_reducible assumption) | assumption); obtain ⟨i013, hi013, _, hsz13, _⟩ := info_parts info57; have hroom13 : l0_2.length ≤ c0_2 := (Kd.V_reads' HO0_2.out).2.1; have hC13 : Kd.F k57 _ _ A0_2 l0_2.length l0_2 := (Kd.V_at (base := w.heap.size) HO0_2.out).2.2; have hcut13 := cut_to (P := Try.prog) 23 57 .i64 Try.underlying23 hi013 A0_2 l0_2.length c0_2 20 (by omega) q13 hroom13; have hr13 := Kd.F_take (m := 20) hC13 (by omega); have hy13 : y212.length = (20 : Int).toNat := (by rw [Ny212.out, List.length_take]; omega); rw [← Ny212.out] at hr13; rw [← hy13] at hcut13; have HO216 := Aside0.mk (show Kd.V k57 57 _ w.heap.size _ (.slice A0_2 y212.length c0_2) y212 from Kd.V_mk (by omega) hr13); have HC216 := Aside0.mk (show y212.length ≤ c0_2 from by omega); clear hr13 hC13 hroom13 hi013 hsz13; have KY13 := Aside0.mk hy13; clear hy13; replace q13 := eq_true q13; have hcz14_0 : w11.cell? ⟨gb206, 0, none⟩ = some (.int .i64 0) := (blk_cell BK206.out 0).trans rfl; have hcz14_1 : w11.cell? ⟨gb206, 1, none⟩ = some (.slice none 0 0) := (blk_cell BK206.out 1).trans rfl; have hcz14_2 : w11.cell? ⟨gb206, 2, none⟩ = some (.slice none 0 0) := (blk_cell BK206.out 2).trans rfl; have hfz14_0 := blk_frozen BK206.out 0; have hfz14_1 := blk_frozen BK206.out 1; have hfz14_2 := blk_frozen BK206.out 2))
          refine bodyPost_ret (results_cell_row rfl _ _ gb206 25 #[.int .i64 a0_0, .slice A0_1 y207.length c0_1, .slice A0_2 y212.length c0_2] (0, 0) _ rfl (by (with_reducible repeat (first | refine blk_drewN ?_ _ | refine blk_drew ?_ | refine blk_alloc ?_ _)); refine blk_put (cs := #[.int .i64 a0_0, .slice A0_1 y207.length c0_1, .slice none 0 0]) ?_ 2 _ rfl; (with_reducible repeat (first | refine blk_drewN ?_ _ | refine blk_drew ?_ | refine blk_alloc ?_ _)); refine blk_put (cs := #[.int .i64 a0_0, .slice none 0 0, .slice none 0 0]) ?_ 1 _ rfl; (with_reducible repeat (first | refine blk_drewN ?_ _ | refine blk_drew ?_ | refine blk_alloc ?_ _)); refine blk_put (cs := #[.int .i64 0, .slice none 0 0, .slice none 0 0]) ?_ 0 _ rfl; (with_reducible repeat (first | refine blk_drewN ?_ _ | refine blk_drew ?_ | refine blk_alloc ?_ _)); refine blk_far ?_ NB206_205.out _; (with_reducible repeat (first | refine blk_drewN ?_ _ | refine blk_drew ?_ | refine blk_alloc ?_ _)); exact BK206.out) Try.underlying25 rfl (by kernel_rfl)) rfl ?_
          exact ⟨_, _, by first | rfl | (simp [errW_none, errW_some] <;> rfl) | (simp [*, errW_none, errW_some] <;> rfl), by (with_reducible repeat (first | apply Kd.V_alloc | apply Kd.V_drewN | apply Kd.V_drew)); exact Kd.V_mono (Kd.V_far (p := ⟨gb206, 2, none⟩) (Kd.V_far (p := ⟨gb206, 1, none⟩) (Kd.V_far (p := ⟨gb206, 0, none⟩) (Kd.V_far (p := ⟨gb205, 2, none⟩) (Kd.V_mono (Kd.V_mono HO211.out (fun k_ hk => (⟨hk, hk.2.1⟩ : _ ∧ k_ ≠ gb205))) (fun k_ hk => (⟨hk, hk.1.2.2⟩ : _ ∧ k_ ≠ gb206))) (fun _ hk => hk.1.2) (.slice A0_2 y212.length c0_2)) (fun _ hk => hk.2) (.int .i64 a0_0)) (fun _ hk => hk.2) (.slice A0_1 y207.length c0_1)) (fun _ hk => hk.2) (.slice A0_2 y212.length c0_2)) (fun _ hk => hk.1.1.1), by (with_reducible repeat (first | apply Kd.V_alloc | apply Kd.V_drewN | apply Kd.V_drew)); exact Kd.V_mono (Kd.V_far (p := ⟨gb206, 2, none⟩) (Kd.V_far (p := ⟨gb206, 1, none⟩) (Kd.V_far (p := ⟨gb206, 0, none⟩) (Kd.V_far (p := ⟨gb205, 2, none⟩) (Kd.V_mono (Kd.V_mono HO216.out (fun k_ hk => (⟨hk, hk.2.1⟩ : _ ∧ k_ ≠ gb205))) (fun k_ hk => (⟨hk, hk.1.2.2⟩ : _ ∧ k_ ≠ gb206))) (fun _ hk => hk.1.2) (.slice A0_2 y212.length c0_2)) (fun _ hk => hk.2) (.int .i64 a0_0)) (fun _ hk => hk.2) (.slice A0_1 y207.length c0_1)) (fun _ hk => hk.2) (.slice A0_2 y212.length c0_2)) (fun _ hk => hk.1.1.1), by repeat (first | (with_reducible first | exact HB.out | apply below_alloc | apply pw_below_drewN | apply below_drew1 | refine below_set ?_ GE205.out | refine below_set ?_ GE206.out) | exact HB.out)⟩
        · rw [if_neg c5] at H
          exact absurd H (by simp)
      · rw [if_neg c4] at H
        have c4b0 : decide (20 < (l0_2.length : Int)) = false := decide_eq_false c4
        have c4b1 : decide (20 < l0_2.length) = false := decide_eq_false (by omega)
        clear c4
        simp only [Option.some.injEq, Prod.mk.injEq] at H
        obtain ⟨rfl, rfl, rfl⟩ := H
        go_enter Try.func10, Try.ntmps10
        go_wp2_with (first | ((with_reducible refine gate_dst (N := 1) rfl ?_); refine box_event ?hg (N := 1) ?hd (cs := #[.int .i64 a0_0, .slice A0_1 l0_1.length c0_1, .slice A0_2 l0_2.length c0_2]) (t := 25) ?hr ?_; (case hd => rfl); (case hg => rfl); (case hr => first | (go_simp; done) | (go_simp; rfl)); intro gb205 hg w15 hbox hb; have n0_ := Aside0.mk (Kd.V_below (Kd.V_elderB (by (with_reducible repeat (first | apply Kd.V_alloc | apply Kd.V_drewN | apply Kd.V_drew)); exact HO0_1.out) gb205 (Nat.le_of_eq hg.symm)) hb); have n1_ := Aside0.mk (Kd.V_below (Kd.V_elderB (by (with_reducible repeat (first | apply Kd.V_alloc | apply Kd.V_drewN | apply Kd.V_drew)); exact HO0_2.out) gb205 (Nat.le_of_eq hg.symm)) hb); have n2_ := Aside0.mk (below_step (by repeat (first | (with_reducible first | exact HB.out | apply below_alloc | apply pw_below_drewN | apply below_drew1) | exact HB.out)) hb); have n3_ := Aside0.mk (hbox); have n4_ := Aside0.mk ((by rw [hg]; exact (below_size (by repeat (first | (with_reducible first | exact HB.out | apply below_alloc | apply pw_below_drewN | apply below_drew1) | exact HB.out))) : w.heap.size ≤ gb205)); have n5_ := Aside0.mk ((by rw [hg]; exact (below_size (by repeat (first | (with_reducible first | exact HB.out | apply below_alloc | apply pw_below_drewN | apply below_drew1) | exact HB.out))) : w.heap.size ≤ gb205)); clear HO0_1; clear HO0_2; clear HB; have HO0_1 := n0_; have HO0_2 := n1_; have HB := n2_; have BK205 := n3_; have GW205 := n4_; have GE205 := n5_; clear n0_ n1_ n2_ n3_ n4_ n5_; clear hb hbox hg) | ((with_reducible refine gate_dst (N := 2) rfl ?_); refine box_event ?hg (N := 2) ?hd (cs := #[.int .i64 0, .slice none 0 0, .slice none 0 0]) (t := 25) ?hr ?_; (case hd => rfl); (case hg => rfl); (case hr => first | (go_simp; done) | (go_simp; rfl)); intro gb206 hg w16 hbox hb; have n0_ := Aside0.mk (Kd.V_below (Kd.V_elderB (by (with_reducible repeat (first | apply Kd.V_alloc | apply Kd.V_drewN | apply Kd.V_drew)); exact HO0_1.out) gb206 (Nat.le_of_eq hg.symm)) hb); have n1_ := Aside0.mk (Kd.V_below (Kd.V_elderB (by (with_reducible repeat (first | apply Kd.V_alloc | apply Kd.V_drewN | apply Kd.V_drew)); exact HO0_2.out) gb206 (Nat.le_of_eq hg.symm)) hb); have n2_ := Aside0.mk (blk_below (g := gb205) (o := .cells #[.int .i64 a0_0, .slice A0_1 l0_1.length c0_1, .slice A0_2 l0_2.length c0_2] 25 (0, 0)) (by (with_reducible repeat (first | refine blk_drewN ?_ _ | refine blk_drew ?_ | refine blk_alloc ?_ _)); exact BK205.out) hb); have n3_ := Aside0.mk (below_step (by repeat (first | (with_reducible first | exact HB.out | apply below_alloc | apply pw_below_drewN | apply below_drew1 | refine below_set ?_ GE205.out) | exact HB.out)) hb); have n4_ := Aside0.mk (hbox); have n5_ := Aside0.mk ((by rw [hg]; exact (below_size (by repeat (first | (with_reducible first | exact HB.out | apply below_alloc | apply pw_below_drewN | apply below_drew1 | refine below_set ?_ GE205.out) | exact HB.out))) : w.heap.size ≤ gb206)); have n6_ := Aside0.mk ((by rw [hg]; exact (below_size (by repeat (first | (with_reducible first | exact HB.out | apply below_alloc | apply pw_below_drewN | apply below_drew1 | refine below_set ?_ GE205.out) | exact HB.out))) : w.heap.size ≤ gb206)); have n7_ := Aside0.mk ((by rw [hg]; exact Nat.ne_of_lt (blk_lt (g := gb205) (o := .cells #[.int .i64 a0_0, .slice A0_1 l0_1.length c0_1, .slice A0_2 l0_2.length c0_2] 25 (0, 0)) (by (with_reducible repeat (first | refine blk_drewN ?_ _ | refine blk_drew ?_ | refine blk_alloc ?_ _)); exact BK205.out)) : gb205 ≠ gb206)); have n8_ := Aside0.mk ((by rw [hg]; exact Nat.ne_of_gt (blk_lt (g := gb205) (o := .cells #[.int .i64 a0_0, .slice A0_1 l0_1.length c0_1, .slice A0_2 l0_2.length c0_2] 25 (0, 0)) (by (with_reducible repeat (first | refine blk_drewN ?_ _ | refine blk_drew ?_ | refine blk_alloc ?_ _)); exact BK205.out)) : gb206 ≠ gb205)); clear HO0_1; clear HO0_2; clear BK205; clear HB; have HO0_1 := n0_; have HO0_2 := n1_; have BK205 := n2_; have HB := n3_; have BK206 := n4_; have GW206 := n5_; have GE206 := n6_; have NB205_206 := n7_; have NB206_205 := n8_; clear n0_ n1_ n2_ n3_ n4_ n5_ n6_ n7_ n8_; clear hb hbox hg; have hnb17 := NB205_206.out; have hnc17 := NB206_205.out; have hcz18_0 : w16.cell? ⟨gb205, 0, none⟩ = some (.int .i64 a0_0) := (blk_cell BK205.out 0).trans rfl; have hcz18_1 : w16.cell? ⟨gb205, 1, none⟩ = some (.slice A0_1 l0_1.length c0_1) := (blk_cell BK205.out 1).trans rfl; have hcz18_2 : w16.cell? ⟨gb205, 2, none⟩ = some (.slice A0_2 l0_2.length c0_2) := (blk_cell BK205.out 2).trans rfl; have hfz18_0 := blk_frozen BK205.out 0; have hfz18_1 := blk_frozen BK205.out 1; have hfz18_2 := blk_frozen BK205.out 2; have q19 : (20 : Int) ≤ ((l0_1.length : Int) : Int) := of_decide_eq_true (by first | (with_reducible assumption) | assumption); obtain ⟨i019, hi019, _, hsz19, _⟩ := info_parts info52; have hroom19 : l0_1.length ≤ c0_1 := (Kd.V_reads' HO0_1.out).2.1; have hC19 : Kd.F k52 _ _ A0_1 l0_1.length l0_1 := (Kd.V_at (base := w.heap.size) HO0_1.out).2.2; (try clear hcut10); have hcut19 := cut_to (P := Try.prog) 22 52 .i64 Try.underlying22 hi019 A0_1 l0_1.length c0_1 20 (by omega) q19 hroom19; have hr19 := Kd.F_take (m := 20) hC19 (by omega); have hy19 : y207.length = (20 : Int).toNat := (by rw [Ny207.out, List.length_take]; omega); rw [← Ny207.out] at hr19; rw [← hy19] at hcut19; have HO211 := Aside0.mk (show Kd.V k52 52 _ w.heap.size _ (.slice A0_1 y207.length c0_1) y207 from Kd.V_mk (by omega) hr19); have HC211 := Aside0.mk (show y207.length ≤ c0_1 from by omega); clear hr19 hC19 hroom19 hi019 hsz19; have KY19 := Aside0.mk hy19; clear hy19; replace q19 := eq_true q19; have hcz20_0 : w16.cell? ⟨gb206, 0, none⟩ = some (.int .i64 0) := (blk_cell BK206.out 0).trans rfl; have hcz20_1 : w16.cell? ⟨gb206, 1, none⟩ = some (.slice none 0 0) := (blk_cell BK206.out 1).trans rfl; have hcz20_2 : w16.cell? ⟨gb206, 2, none⟩ = some (.slice none 0 0) := (blk_cell BK206.out 2).trans rfl; have hfz20_0 := blk_frozen BK206.out 0; have hfz20_1 := blk_frozen BK206.out 1; have hfz20_2 := blk_frozen BK206.out 2))
        refine bodyPost_ret (results_cell_row rfl _ _ gb206 25 #[.int .i64 a0_0, .slice A0_1 y207.length c0_1, .slice A0_2 l0_2.length c0_2] (0, 0) _ rfl (by (with_reducible repeat (first | refine blk_drewN ?_ _ | refine blk_drew ?_ | refine blk_alloc ?_ _)); refine blk_put (cs := #[.int .i64 a0_0, .slice A0_1 y207.length c0_1, .slice none 0 0]) ?_ 2 _ rfl; (with_reducible repeat (first | refine blk_drewN ?_ _ | refine blk_drew ?_ | refine blk_alloc ?_ _)); refine blk_put (cs := #[.int .i64 a0_0, .slice none 0 0, .slice none 0 0]) ?_ 1 _ rfl; (with_reducible repeat (first | refine blk_drewN ?_ _ | refine blk_drew ?_ | refine blk_alloc ?_ _)); refine blk_put (cs := #[.int .i64 0, .slice none 0 0, .slice none 0 0]) ?_ 0 _ rfl; (with_reducible repeat (first | refine blk_drewN ?_ _ | refine blk_drew ?_ | refine blk_alloc ?_ _)); refine blk_far ?_ NB206_205.out _; (with_reducible repeat (first | refine blk_drewN ?_ _ | refine blk_drew ?_ | refine blk_alloc ?_ _)); exact BK206.out) Try.underlying25 rfl (by kernel_rfl)) rfl ?_
        exact ⟨_, _, by first | rfl | (simp [errW_none, errW_some] <;> rfl) | (simp [*, errW_none, errW_some] <;> rfl), by (with_reducible repeat (first | apply Kd.V_alloc | apply Kd.V_drewN | apply Kd.V_drew)); exact Kd.V_mono (Kd.V_far (p := ⟨gb206, 2, none⟩) (Kd.V_far (p := ⟨gb206, 1, none⟩) (Kd.V_far (p := ⟨gb206, 0, none⟩) (Kd.V_far (p := ⟨gb205, 1, none⟩) (Kd.V_mono (Kd.V_mono HO211.out (fun k_ hk => (⟨hk, hk.1.2⟩ : _ ∧ k_ ≠ gb205))) (fun k_ hk => (⟨hk, hk.1.2⟩ : _ ∧ k_ ≠ gb206))) (fun _ hk => hk.1.2) (.slice A0_1 y207.length c0_1)) (fun _ hk => hk.2) (.int .i64 a0_0)) (fun _ hk => hk.2) (.slice A0_1 y207.length c0_1)) (fun _ hk => hk.2) (.slice A0_2 l0_2.length c0_2)) (fun _ hk => hk.1.1.1.1), by (with_reducible repeat (first | apply Kd.V_alloc | apply Kd.V_drewN | apply Kd.V_drew)); exact Kd.V_mono (Kd.V_far (p := ⟨gb206, 2, none⟩) (Kd.V_far (p := ⟨gb206, 1, none⟩) (Kd.V_far (p := ⟨gb206, 0, none⟩) (Kd.V_far (p := ⟨gb205, 1, none⟩) (Kd.V_mono (Kd.V_mono HO0_2.out (fun k_ hk => (⟨hk, hk.1.2⟩ : _ ∧ k_ ≠ gb205))) (fun k_ hk => (⟨hk, hk.1.2⟩ : _ ∧ k_ ≠ gb206))) (fun _ hk => hk.1.2) (.slice A0_1 y207.length c0_1)) (fun _ hk => hk.2) (.int .i64 a0_0)) (fun _ hk => hk.2) (.slice A0_1 y207.length c0_1)) (fun _ hk => hk.2) (.slice A0_2 l0_2.length c0_2)) (fun _ hk => hk.1.1.1.1), by repeat (first | (with_reducible first | exact HB.out | apply below_alloc | apply pw_below_drewN | apply below_drew1 | refine below_set ?_ GE205.out | refine below_set ?_ GE206.out) | exact HB.out)⟩
    · rw [if_neg c3] at H
      exact absurd H (by simp)
  · rw [if_neg c2] at H
    have c2b0 : decide (20 < (l0_1.length : Int)) = false := decide_eq_false c2
    have c2b1 : decide (20 < l0_1.length) = false := decide_eq_false (by omega)
    clear c2
    by_cases c21 : (l0_2.length : Int) > 20
    · rw [if_pos c21] at H
      have c21b0 : decide (20 < (l0_2.length : Int)) = true := decide_eq_true c21
      have c21b1 : decide (20 < l0_2.length) = true := decide_eq_true (by omega)
      clear c21
      by_cases c22 : 20 ≤ (l0_2.length : Int)
      · rw [if_pos c22] at H
        have c22b0 := eq_true c22
        have c22b1 : decide (20 ≤ (l0_2.length : Int)) = true := decide_eq_true c22
        clear c22
        obtain ⟨y217, hy217⟩ : ∃ y_ : List (S57), y_ = (l0_2.take 20) := ⟨_, rfl⟩
        replace H : (some (a0_0, l0_1, y217)) = some (r1, r2, r3) := by first | (rw [hy217]; with_reducible exact H) | (have H2_ := (Option.bind_some _ _).symm.trans H; rw [hy217]; with_reducible exact H2_) | (have H2_ := (Option.bind_some _ _).symm.trans H; with_reducible exact H2_) | with_reducible exact H | (rw [hy217]; exact H) | exact H
        have Ny217 := Aside0.mk hy217
        clear hy217
        simp only [Option.some.injEq, Prod.mk.injEq] at H
        obtain ⟨rfl, rfl, rfl⟩ := H
        go_enter Try.func10, Try.ntmps10
        go_wp2_with (first | ((with_reducible refine gate_dst (N := 1) rfl ?_); refine box_event ?hg (N := 1) ?hd (cs := #[.int .i64 a0_0, .slice A0_1 l0_1.length c0_1, .slice A0_2 l0_2.length c0_2]) (t := 25) ?hr ?_; (case hd => rfl); (case hg => rfl); (case hr => first | (go_simp; done) | (go_simp; rfl)); intro gb205 hg w23 hbox hb; have n0_ := Aside0.mk (Kd.V_below (Kd.V_elderB (by (with_reducible repeat (first | apply Kd.V_alloc | apply Kd.V_drewN | apply Kd.V_drew)); exact HO0_1.out) gb205 (Nat.le_of_eq hg.symm)) hb); have n1_ := Aside0.mk (Kd.V_below (Kd.V_elderB (by (with_reducible repeat (first | apply Kd.V_alloc | apply Kd.V_drewN | apply Kd.V_drew)); exact HO0_2.out) gb205 (Nat.le_of_eq hg.symm)) hb); have n2_ := Aside0.mk (below_step (by repeat (first | (with_reducible first | exact HB.out | apply below_alloc | apply pw_below_drewN | apply below_drew1) | exact HB.out)) hb); have n3_ := Aside0.mk (hbox); have n4_ := Aside0.mk ((by rw [hg]; exact (below_size (by repeat (first | (with_reducible first | exact HB.out | apply below_alloc | apply pw_below_drewN | apply below_drew1) | exact HB.out))) : w.heap.size ≤ gb205)); have n5_ := Aside0.mk ((by rw [hg]; exact (below_size (by repeat (first | (with_reducible first | exact HB.out | apply below_alloc | apply pw_below_drewN | apply below_drew1) | exact HB.out))) : w.heap.size ≤ gb205)); clear HO0_1; clear HO0_2; clear HB; have HO0_1 := n0_; have HO0_2 := n1_; have HB := n2_; have BK205 := n3_; have GW205 := n4_; have GE205 := n5_; clear n0_ n1_ n2_ n3_ n4_ n5_; clear hb hbox hg) | ((with_reducible refine gate_dst (N := 2) rfl ?_); refine box_event ?hg (N := 2) ?hd (cs := #[.int .i64 0, .slice none 0 0, .slice none 0 0]) (t := 25) ?hr ?_; (case hd => rfl); (case hg => rfl); (case hr => first | (go_simp; done) | (go_simp; rfl)); intro gb206 hg w24 hbox hb; have n0_ := Aside0.mk (Kd.V_below (Kd.V_elderB (by (with_reducible repeat (first | apply Kd.V_alloc | apply Kd.V_drewN | apply Kd.V_drew)); exact HO0_1.out) gb206 (Nat.le_of_eq hg.symm)) hb); have n1_ := Aside0.mk (Kd.V_below (Kd.V_elderB (by (with_reducible repeat (first | apply Kd.V_alloc | apply Kd.V_drewN | apply Kd.V_drew)); exact HO0_2.out) gb206 (Nat.le_of_eq hg.symm)) hb); have n2_ := Aside0.mk (blk_below (g := gb205) (o := .cells #[.int .i64 a0_0, .slice A0_1 l0_1.length c0_1, .slice A0_2 l0_2.length c0_2] 25 (0, 0)) (by (with_reducible repeat (first | refine blk_drewN ?_ _ | refine blk_drew ?_ | refine blk_alloc ?_ _)); exact BK205.out) hb); have n3_ := Aside0.mk (below_step (by repeat (first | (with_reducible first | exact HB.out | apply below_alloc | apply pw_below_drewN | apply below_drew1 | refine below_set ?_ GE205.out) | exact HB.out)) hb); have n4_ := Aside0.mk (hbox); have n5_ := Aside0.mk ((by rw [hg]; exact (below_size (by repeat (first | (with_reducible first | exact HB.out | apply below_alloc | apply pw_below_drewN | apply below_drew1 | refine below_set ?_ GE205.out) | exact HB.out))) : w.heap.size ≤ gb206)); have n6_ := Aside0.mk ((by rw [hg]; exact (below_size (by repeat (first | (with_reducible first | exact HB.out | apply below_alloc | apply pw_below_drewN | apply below_drew1 | refine below_set ?_ GE205.out) | exact HB.out))) : w.heap.size ≤ gb206)); have n7_ := Aside0.mk ((by rw [hg]; exact Nat.ne_of_lt (blk_lt (g := gb205) (o := .cells #[.int .i64 a0_0, .slice A0_1 l0_1.length c0_1, .slice A0_2 l0_2.length c0_2] 25 (0, 0)) (by (with_reducible repeat (first | refine blk_drewN ?_ _ | refine blk_drew ?_ | refine blk_alloc ?_ _)); exact BK205.out)) : gb205 ≠ gb206)); have n8_ := Aside0.mk ((by rw [hg]; exact Nat.ne_of_gt (blk_lt (g := gb205) (o := .cells #[.int .i64 a0_0, .slice A0_1 l0_1.length c0_1, .slice A0_2 l0_2.length c0_2] 25 (0, 0)) (by (with_reducible repeat (first | refine blk_drewN ?_ _ | refine blk_drew ?_ | refine blk_alloc ?_ _)); exact BK205.out)) : gb206 ≠ gb205)); clear HO0_1; clear HO0_2; clear BK205; clear HB; have HO0_1 := n0_; have HO0_2 := n1_; have BK205 := n2_; have HB := n3_; have BK206 := n4_; have GW206 := n5_; have GE206 := n6_; have NB205_206 := n7_; have NB206_205 := n8_; clear n0_ n1_ n2_ n3_ n4_ n5_ n6_ n7_ n8_; clear hb hbox hg; have hnb25 := NB205_206.out; have hnc25 := NB206_205.out; have hcz26_0 : w24.cell? ⟨gb205, 0, none⟩ = some (.int .i64 a0_0) := (blk_cell BK205.out 0).trans rfl; have hcz26_1 : w24.cell? ⟨gb205, 1, none⟩ = some (.slice A0_1 l0_1.length c0_1) := (blk_cell BK205.out 1).trans rfl; have hcz26_2 : w24.cell? ⟨gb205, 2, none⟩ = some (.slice A0_2 l0_2.length c0_2) := (blk_cell BK205.out 2).trans rfl; have hfz26_0 := blk_frozen BK205.out 0; have hfz26_1 := blk_frozen BK205.out 1; have hfz26_2 := blk_frozen BK205.out 2; have q27 : (20 : Int) ≤ ((l0_2.length : Int) : Int) := of_decide_eq_true (by first | (with_reducible assumption) | assumption); obtain ⟨i027, hi027, _, hsz27, _⟩ := info_parts info57; have hroom27 : l0_2.length ≤ c0_2 := (Kd.V_reads' HO0_2.out).2.1; have hC27 : Kd.F k57 _ _ A0_2 l0_2.length l0_2 := (Kd.V_at (base := w.heap.size) HO0_2.out).2.2; (try clear hcut13); have hcut27 := cut_to (P := Try.prog) 23 57 .i64 Try.underlying23 hi027 A0_2 l0_2.length c0_2 20 (by omega) q27 hroom27; have hr27 := Kd.F_take (m := 20) hC27 (by omega); have hy27 : y217.length = (20 : Int).toNat := (by rw [Ny217.out, List.length_take]; omega); rw [← Ny217.out] at hr27; rw [← hy27] at hcut27; have HO221 := Aside0.mk (show Kd.V k57 57 _ w.heap.size _ (.slice A0_2 y217.length c0_2) y217 from Kd.V_mk (by omega) hr27); have HC221 := Aside0.mk (show y217.length ≤ c0_2 from by omega); clear hr27 hC27 hroom27 hi027 hsz27; have KY27 := Aside0.mk hy27; clear hy27; replace q27 := eq_true q27; have hcz28_0 : w24.cell? ⟨gb206, 0, none⟩ = some (.int .i64 0) := (blk_cell BK206.out 0).trans rfl; have hcz28_1 : w24.cell? ⟨gb206, 1, none⟩ = some (.slice none 0 0) := (blk_cell BK206.out 1).trans rfl; have hcz28_2 : w24.cell? ⟨gb206, 2, none⟩ = some (.slice none 0 0) := (blk_cell BK206.out 2).trans rfl; have hfz28_0 := blk_frozen BK206.out 0; have hfz28_1 := blk_frozen BK206.out 1; have hfz28_2 := blk_frozen BK206.out 2))
        refine bodyPost_ret (results_cell_row rfl _ _ gb206 25 #[.int .i64 a0_0, .slice A0_1 l0_1.length c0_1, .slice A0_2 y217.length c0_2] (0, 0) _ rfl (by (with_reducible repeat (first | refine blk_drewN ?_ _ | refine blk_drew ?_ | refine blk_alloc ?_ _)); refine blk_put (cs := #[.int .i64 a0_0, .slice A0_1 l0_1.length c0_1, .slice none 0 0]) ?_ 2 _ rfl; (with_reducible repeat (first | refine blk_drewN ?_ _ | refine blk_drew ?_ | refine blk_alloc ?_ _)); refine blk_put (cs := #[.int .i64 a0_0, .slice none 0 0, .slice none 0 0]) ?_ 1 _ rfl; (with_reducible repeat (first | refine blk_drewN ?_ _ | refine blk_drew ?_ | refine blk_alloc ?_ _)); refine blk_put (cs := #[.int .i64 0, .slice none 0 0, .slice none 0 0]) ?_ 0 _ rfl; (with_reducible repeat (first | refine blk_drewN ?_ _ | refine blk_drew ?_ | refine blk_alloc ?_ _)); refine blk_far ?_ NB206_205.out _; (with_reducible repeat (first | refine blk_drewN ?_ _ | refine blk_drew ?_ | refine blk_alloc ?_ _)); exact BK206.out) Try.underlying25 rfl (by kernel_rfl)) rfl ?_
        exact ⟨_, _, by first | rfl | (simp [errW_none, errW_some] <;> rfl) | (simp [*, errW_none, errW_some] <;> rfl), by (with_reducible repeat (first | apply Kd.V_alloc | apply Kd.V_drewN | apply Kd.V_drew)); exact Kd.V_mono (Kd.V_far (p := ⟨gb206, 2, none⟩) (Kd.V_far (p := ⟨gb206, 1, none⟩) (Kd.V_far (p := ⟨gb206, 0, none⟩) (Kd.V_far (p := ⟨gb205, 2, none⟩) (Kd.V_mono (Kd.V_mono HO0_1.out (fun k_ hk => (⟨hk, hk.1.2⟩ : _ ∧ k_ ≠ gb205))) (fun k_ hk => (⟨hk, hk.1.2⟩ : _ ∧ k_ ≠ gb206))) (fun _ hk => hk.1.2) (.slice A0_2 y217.length c0_2)) (fun _ hk => hk.2) (.int .i64 a0_0)) (fun _ hk => hk.2) (.slice A0_1 l0_1.length c0_1)) (fun _ hk => hk.2) (.slice A0_2 y217.length c0_2)) (fun _ hk => hk.1.1.1.1), by (with_reducible repeat (first | apply Kd.V_alloc | apply Kd.V_drewN | apply Kd.V_drew)); exact Kd.V_mono (Kd.V_far (p := ⟨gb206, 2, none⟩) (Kd.V_far (p := ⟨gb206, 1, none⟩) (Kd.V_far (p := ⟨gb206, 0, none⟩) (Kd.V_far (p := ⟨gb205, 2, none⟩) (Kd.V_mono (Kd.V_mono HO221.out (fun k_ hk => (⟨hk, hk.1.2⟩ : _ ∧ k_ ≠ gb205))) (fun k_ hk => (⟨hk, hk.1.2⟩ : _ ∧ k_ ≠ gb206))) (fun _ hk => hk.1.2) (.slice A0_2 y217.length c0_2)) (fun _ hk => hk.2) (.int .i64 a0_0)) (fun _ hk => hk.2) (.slice A0_1 l0_1.length c0_1)) (fun _ hk => hk.2) (.slice A0_2 y217.length c0_2)) (fun _ hk => hk.1.1.1.1), by repeat (first | (with_reducible first | exact HB.out | apply below_alloc | apply pw_below_drewN | apply below_drew1 | refine below_set ?_ GE205.out | refine below_set ?_ GE206.out) | exact HB.out)⟩
      · rw [if_neg c22] at H
        exact absurd H (by simp)
    · rw [if_neg c21] at H
      have c21b0 : decide (20 < (l0_2.length : Int)) = false := decide_eq_false c21
      have c21b1 : decide (20 < l0_2.length) = false := decide_eq_false (by omega)
      clear c21
      simp only [Option.some.injEq, Prod.mk.injEq] at H
      obtain ⟨rfl, rfl, rfl⟩ := H
      go_enter Try.func10, Try.ntmps10
      go_wp2_with (first | ((with_reducible refine gate_dst (N := 1) rfl ?_); refine box_event ?hg (N := 1) ?hd (cs := #[.int .i64 a0_0, .slice A0_1 l0_1.length c0_1, .slice A0_2 l0_2.length c0_2]) (t := 25) ?hr ?_; (case hd => rfl); (case hg => rfl); (case hr => first | (go_simp; done) | (go_simp; rfl)); intro gb205 hg w29 hbox hb; have n0_ := Aside0.mk (Kd.V_below (Kd.V_elderB (by (with_reducible repeat (first | apply Kd.V_alloc | apply Kd.V_drewN | apply Kd.V_drew)); exact HO0_1.out) gb205 (Nat.le_of_eq hg.symm)) hb); have n1_ := Aside0.mk (Kd.V_below (Kd.V_elderB (by (with_reducible repeat (first | apply Kd.V_alloc | apply Kd.V_drewN | apply Kd.V_drew)); exact HO0_2.out) gb205 (Nat.le_of_eq hg.symm)) hb); have n2_ := Aside0.mk (below_step (by repeat (first | (with_reducible first | exact HB.out | apply below_alloc | apply pw_below_drewN | apply below_drew1) | exact HB.out)) hb); have n3_ := Aside0.mk (hbox); have n4_ := Aside0.mk ((by rw [hg]; exact (below_size (by repeat (first | (with_reducible first | exact HB.out | apply below_alloc | apply pw_below_drewN | apply below_drew1) | exact HB.out))) : w.heap.size ≤ gb205)); have n5_ := Aside0.mk ((by rw [hg]; exact (below_size (by repeat (first | (with_reducible first | exact HB.out | apply below_alloc | apply pw_below_drewN | apply below_drew1) | exact HB.out))) : w.heap.size ≤ gb205)); clear HO0_1; clear HO0_2; clear HB; have HO0_1 := n0_; have HO0_2 := n1_; have HB := n2_; have BK205 := n3_; have GW205 := n4_; have GE205 := n5_; clear n0_ n1_ n2_ n3_ n4_ n5_; clear hb hbox hg) | ((with_reducible refine gate_dst (N := 2) rfl ?_); refine box_event ?hg (N := 2) ?hd (cs := #[.int .i64 0, .slice none 0 0, .slice none 0 0]) (t := 25) ?hr ?_; (case hd => rfl); (case hg => rfl); (case hr => first | (go_simp; done) | (go_simp; rfl)); intro gb206 hg w30 hbox hb; have n0_ := Aside0.mk (Kd.V_below (Kd.V_elderB (by (with_reducible repeat (first | apply Kd.V_alloc | apply Kd.V_drewN | apply Kd.V_drew)); exact HO0_1.out) gb206 (Nat.le_of_eq hg.symm)) hb); have n1_ := Aside0.mk (Kd.V_below (Kd.V_elderB (by (with_reducible repeat (first | apply Kd.V_alloc | apply Kd.V_drewN | apply Kd.V_drew)); exact HO0_2.out) gb206 (Nat.le_of_eq hg.symm)) hb); have n2_ := Aside0.mk (blk_below (g := gb205) (o := .cells #[.int .i64 a0_0, .slice A0_1 l0_1.length c0_1, .slice A0_2 l0_2.length c0_2] 25 (0, 0)) (by (with_reducible repeat (first | refine blk_drewN ?_ _ | refine blk_drew ?_ | refine blk_alloc ?_ _)); exact BK205.out) hb); have n3_ := Aside0.mk (below_step (by repeat (first | (with_reducible first | exact HB.out | apply below_alloc | apply pw_below_drewN | apply below_drew1 | refine below_set ?_ GE205.out) | exact HB.out)) hb); have n4_ := Aside0.mk (hbox); have n5_ := Aside0.mk ((by rw [hg]; exact (below_size (by repeat (first | (with_reducible first | exact HB.out | apply below_alloc | apply pw_below_drewN | apply below_drew1 | refine below_set ?_ GE205.out) | exact HB.out))) : w.heap.size ≤ gb206)); have n6_ := Aside0.mk ((by rw [hg]; exact (below_size (by repeat (first | (with_reducible first | exact HB.out | apply below_alloc | apply pw_below_drewN | apply below_drew1 | refine below_set ?_ GE205.out) | exact HB.out))) : w.heap.size ≤ gb206)); have n7_ := Aside0.mk ((by rw [hg]; exact Nat.ne_of_lt (blk_lt (g := gb205) (o := .cells #[.int .i64 a0_0, .slice A0_1 l0_1.length c0_1, .slice A0_2 l0_2.length c0_2] 25 (0, 0)) (by (with_reducible repeat (first | refine blk_drewN ?_ _ | refine blk_drew ?_ | refine blk_alloc ?_ _)); exact BK205.out)) : gb205 ≠ gb206)); have n8_ := Aside0.mk ((by rw [hg]; exact Nat.ne_of_gt (blk_lt (g := gb205) (o := .cells #[.int .i64 a0_0, .slice A0_1 l0_1.length c0_1, .slice A0_2 l0_2.length c0_2] 25 (0, 0)) (by (with_reducible repeat (first | refine blk_drewN ?_ _ | refine blk_drew ?_ | refine blk_alloc ?_ _)); exact BK205.out)) : gb206 ≠ gb205)); clear HO0_1; clear HO0_2; clear BK205; clear HB; have HO0_1 := n0_; have HO0_2 := n1_; have BK205 := n2_; have HB := n3_; have BK206 := n4_; have GW206 := n5_; have GE206 := n6_; have NB205_206 := n7_; have NB206_205 := n8_; clear n0_ n1_ n2_ n3_ n4_ n5_ n6_ n7_ n8_; clear hb hbox hg; have hnb31 := NB205_206.out; have hnc31 := NB206_205.out; have hcz32_0 : w30.cell? ⟨gb205, 0, none⟩ = some (.int .i64 a0_0) := (blk_cell BK205.out 0).trans rfl; have hcz32_1 : w30.cell? ⟨gb205, 1, none⟩ = some (.slice A0_1 l0_1.length c0_1) := (blk_cell BK205.out 1).trans rfl; have hcz32_2 : w30.cell? ⟨gb205, 2, none⟩ = some (.slice A0_2 l0_2.length c0_2) := (blk_cell BK205.out 2).trans rfl; have hfz32_0 := blk_frozen BK205.out 0; have hfz32_1 := blk_frozen BK205.out 1; have hfz32_2 := blk_frozen BK205.out 2; have hcz33_0 : w30.cell? ⟨gb206, 0, none⟩ = some (.int .i64 0) := (blk_cell BK206.out 0).trans rfl; have hcz33_1 : w30.cell? ⟨gb206, 1, none⟩ = some (.slice none 0 0) := (blk_cell BK206.out 1).trans rfl; have hcz33_2 : w30.cell? ⟨gb206, 2, none⟩ = some (.slice none 0 0) := (blk_cell BK206.out 2).trans rfl; have hfz33_0 := blk_frozen BK206.out 0; have hfz33_1 := blk_frozen BK206.out 1; have hfz33_2 := blk_frozen BK206.out 2))
      refine bodyPost_ret (results_cell_row rfl _ _ gb206 25 #[.int .i64 a0_0, .slice A0_1 l0_1.length c0_1, .slice A0_2 l0_2.length c0_2] (0, 0) _ rfl (by (with_reducible repeat (first | refine blk_drewN ?_ _ | refine blk_drew ?_ | refine blk_alloc ?_ _)); refine blk_put (cs := #[.int .i64 a0_0, .slice A0_1 l0_1.length c0_1, .slice none 0 0]) ?_ 2 _ rfl; (with_reducible repeat (first | refine blk_drewN ?_ _ | refine blk_drew ?_ | refine blk_alloc ?_ _)); refine blk_put (cs := #[.int .i64 a0_0, .slice none 0 0, .slice none 0 0]) ?_ 1 _ rfl; (with_reducible repeat (first | refine blk_drewN ?_ _ | refine blk_drew ?_ | refine blk_alloc ?_ _)); refine blk_put (cs := #[.int .i64 0, .slice none 0 0, .slice none 0 0]) ?_ 0 _ rfl; (with_reducible repeat (first | refine blk_drewN ?_ _ | refine blk_drew ?_ | refine blk_alloc ?_ _)); exact BK206.out) Try.underlying25 rfl (by kernel_rfl)) rfl ?_
      exact ⟨_, _, by first | rfl | (simp [errW_none, errW_some] <;> rfl) | (simp [*, errW_none, errW_some] <;> rfl), by (with_reducible repeat (first | apply Kd.V_alloc | apply Kd.V_drewN | apply Kd.V_drew)); exact Kd.V_mono (Kd.V_far (p := ⟨gb206, 2, none⟩) (Kd.V_far (p := ⟨gb206, 1, none⟩) (Kd.V_far (p := ⟨gb206, 0, none⟩) (Kd.V_mono HO0_1.out (fun k_ hk => (⟨hk, hk.2⟩ : _ ∧ k_ ≠ gb206))) (fun _ hk => hk.2) (.int .i64 a0_0)) (fun _ hk => hk.2) (.slice A0_1 l0_1.length c0_1)) (fun _ hk => hk.2) (.slice A0_2 l0_2.length c0_2)) (fun _ hk => hk.1.1.1), by (with_reducible repeat (first | apply Kd.V_alloc | apply Kd.V_drewN | apply Kd.V_drew)); exact Kd.V_mono (Kd.V_far (p := ⟨gb206, 2, none⟩) (Kd.V_far (p := ⟨gb206, 1, none⟩) (Kd.V_far (p := ⟨gb206, 0, none⟩) (Kd.V_mono HO0_2.out (fun k_ hk => (⟨hk, hk.2⟩ : _ ∧ k_ ≠ gb206))) (fun _ hk => hk.2) (.int .i64 a0_0)) (fun _ hk => hk.2) (.slice A0_1 l0_1.length c0_1)) (fun _ hk => hk.2) (.slice A0_2 l0_2.length c0_2)) (fun _ hk => hk.1.1.1), by repeat (first | (with_reducible first | exact HB.out | apply below_alloc | apply pw_below_drewN | apply below_drew1 | refine below_set ?_ GE205.out | refine below_set ?_ GE206.out) | exact HB.out)⟩

/-! ### cambiumref06_Keys: function 16 -/
mutual
def cambiumref06_Keys.l0 : Nat → List (S35) → Int → Int → List (S52) → List (S57) → Option ((List (S35)))
  | 0, _, _, _, _, _ => none
  | k + 1, x3, x4, x223000, x223001, x223002 => if x4 < (x223001.length : Int) then (if 0 ≤ x4 then (if x3.length < 5864062014805 then (cambiumref06_Keys.l0 k (x3 ++ [(⟨(rd_T52 x223001 x4).f0.f0, (rd_T52 x223001 x4).f0.f1, (rd_T52 x223001 x4).f0.f2⟩ : S35)]) (wrap64 (x4 + 1)) x223000 x223001 x223002) else (none)) else (none)) else (cambiumref06_Keys.l1 k x3 0 x223000 x223001 x223002)
def cambiumref06_Keys.l1 : Nat → List (S35) → Int → Int → List (S52) → List (S57) → Option ((List (S35)))
  | 0, _, _, _, _, _ => none
  | k + 1, x3, x5, x223000, x223001, x223002 => if x5 < (x223002.length : Int) then (if 0 ≤ x5 then (if x3.length < 5864062014805 then (cambiumref06_Keys.l1 k (x3 ++ [(⟨(rd_T57 x223002 x5).f0.f0, (rd_T57 x223002 x5).f0.f1, (rd_T57 x223002 x5).f0.f2⟩ : S35)]) (wrap64 (x5 + 1)) x223000 x223001 x223002) else (none)) else (none)) else (some x3)
end
def cambiumref06_Keys.f (k : Nat) (a0_0 : Int) (l0_1 : List (S52)) (l0_2 : List (S57)) : Option ((List (S35))) := cambiumref06_Keys.l0 k (([] : List (S35))) 0 a0_0 l0_1 l0_2
theorem cambiumref06_Keys.mono_l : ∀ k, (∀ y0 y1 y2 y3 y4, LeO (cambiumref06_Keys.l0 k y0 y1 y2 y3 y4) (cambiumref06_Keys.l0 (k + 1) y0 y1 y2 y3 y4)) ∧ (∀ y0 y1 y2 y3 y4, LeO (cambiumref06_Keys.l1 k y0 y1 y2 y3 y4) (cambiumref06_Keys.l1 (k + 1) y0 y1 y2 y3 y4))
  | 0 => ⟨fun _ _ _ _ _ r h => by simp [cambiumref06_Keys.l0] at h, fun _ _ _ _ _ r h => by simp [cambiumref06_Keys.l1] at h⟩
  | k + 1 => by
    obtain ⟨ih0, ih1⟩ := cambiumref06_Keys.mono_l k
    refine ⟨?_, ?_⟩
    · intro y0 y1 y2 y3 y4
      unfold cambiumref06_Keys.l0
      repeat' first
      | (with_reducible exact ih0 _ _ _ _ _)
      | (with_reducible exact ih1 _ _ _ _ _)
      | (with_reducible exact LeO.refl _)
      | (with_reducible exact LeO.none _)
      | (with_reducible refine LeO.ite ?_ ?_)
      | (with_reducible refine LeO.bind ?_ (fun _ => ?_))
      | exact ih0 _ _ _ _ _
      | exact ih1 _ _ _ _ _
      | exact LeO.none _
      | refine LeO.ite ?_ ?_
      | refine LeO.bind ?_ (fun _ => ?_)
    · intro y0 y1 y2 y3 y4
      unfold cambiumref06_Keys.l1
      repeat' first
      | (with_reducible exact ih0 _ _ _ _ _)
      | (with_reducible exact ih1 _ _ _ _ _)
      | (with_reducible exact LeO.refl _)
      | (with_reducible exact LeO.none _)
      | (with_reducible refine LeO.ite ?_ ?_)
      | (with_reducible refine LeO.bind ?_ (fun _ => ?_))
      | exact ih0 _ _ _ _ _
      | exact ih1 _ _ _ _ _
      | exact LeO.none _
      | refine LeO.ite ?_ ?_
      | refine LeO.bind ?_ (fun _ => ?_)
theorem cambiumref06_Keys.mono : ∀ a0 a1 a2 k, LeO (cambiumref06_Keys.f k a0 a1 a2) (cambiumref06_Keys.f (k + 1) a0 a1 a2) := by
  intro a0 a1 a2 k
  obtain ⟨ih0, ih1⟩ := cambiumref06_Keys.mono_l k
  unfold cambiumref06_Keys.f
  repeat' first
      | (with_reducible exact ih0 _ _ _ _ _)
      | (with_reducible exact ih1 _ _ _ _ _)
      | (with_reducible exact LeO.refl _)
      | (with_reducible exact LeO.none _)
      | (with_reducible refine LeO.ite ?_ ?_)
      | (with_reducible refine LeO.bind ?_ (fun _ => ?_))
      | exact ih0 _ _ _ _ _
      | exact ih1 _ _ _ _ _
      | exact LeO.none _
      | refine LeO.ite ?_ ?_
      | refine LeO.bind ?_ (fun _ => ?_)
set_option maxHeartbeats 8000000 in
set_option maxRecDepth 100000 in
theorem cambiumref06_Keys.calls (k : Nat) (a0_0 : Int) (A0_1 : Option Addr) (c0_1 : Nat) (l0_1 : List (S52)) (A0_2 : Option Addr) (c0_2 : Nat) (l0_2 : List (S57)) (r : List (S35)) (w : World) (hr0_1 : Kd.C k52 w A0_1 l0_1.length l0_1) (hc0_1 : l0_1.length ≤ c0_1) (hr0_2 : Kd.C k57 w A0_2 l0_2.length l0_2) (hc0_2 : l0_2.length ≤ c0_2) (h : cambiumref06_Keys.f k a0_0 l0_1 l0_2 = some r) :
    Calls Try.prog 16 #[.agg #[.int .i64 a0_0, .slice A0_1 l0_1.length c0_1, .slice A0_2 l0_2.length c0_2]] w fun e w' => ∃ v0_ : Value, e = .returned (v0_) ∧ Kd.R k35 35 w' w.heap.size (fun _ => True) v0_ r ∧ Below w.heap.size w w' := by
  have hu25 := Try.underlying25
  have hu35 := Try.underlying35
  have HR0_1 := Aside0.mk hr0_1
  have HC0_1 := Aside0.mk hc0_1
  clear hr0_1 hc0_1
  have HR0_2 := Aside0.mk hr0_2
  have HC0_2 := Aside0.mk hc0_2
  clear hr0_2 hc0_2
  have HB := Aside0.mk (Below.refl w.heap.size w)
  have H : (cambiumref06_Keys.l0 k (([] : List (S35))) 0 a0_0 l0_1 l0_2) = some r := h
  clear h
  obtain ⟨y223, hy223⟩ : ∃ y_ : List (S35), y_ = (([] : List (S35))) := ⟨_, rfl⟩
  replace H : (cambiumref06_Keys.l0 k y223 0 a0_0 l0_1 l0_2) = some r := by first | (rw [hy223]; with_reducible exact H) | (have H2_ := (Option.bind_some _ _).symm.trans H; rw [hy223]; with_reducible exact H2_) | (have H2_ := (Option.bind_some _ _).symm.trans H; with_reducible exact H2_) | with_reducible exact H | (rw [hy223]; exact H) | exact H
  have Ny223 := Aside0.mk hy223
  clear hy223
  have H' := Aside0.mk H
  clear H
  go_enter Try.func16, Try.ntmps16
  go_wp2_with (first | ((with_reducible refine gate_dst (N := 1) rfl ?_); refine box_event ?hg (N := 1) ?hd (cs := #[.int .i64 a0_0, .slice A0_1 l0_1.length c0_1, .slice A0_2 l0_2.length c0_2]) (t := 25) ?hr ?_; (case hd => rfl); (case hg => rfl); (case hr => first | (go_simp; done) | (go_simp; rfl)); intro gb222 hg w2 hbox hb; have n0_ := Aside0.mk (below_step (by repeat (first | (with_reducible first | exact HB.out | apply below_alloc | apply pw_below_drewN | apply below_drew1) | exact HB.out)) hb); have n1_ := Aside0.mk (hbox); have n2_ := Aside0.mk ((by rw [hg]; exact (below_size (by repeat (first | (with_reducible first | exact HB.out | apply below_alloc | apply pw_below_drewN | apply below_drew1) | exact HB.out))) : w.heap.size ≤ gb222)); have n3_ := Aside0.mk ((by rw [hg]; exact (below_size (by repeat (first | (with_reducible first | exact HB.out | apply below_alloc | apply pw_below_drewN | apply below_drew1) | exact HB.out))) : w.heap.size ≤ gb222)); clear HB; have HB := n0_; have BK222 := n1_; have GW222 := n2_; have GE222 := n3_; clear n0_ n1_ n2_ n3_; clear hb hbox hg) | ((with_reducible refine gate_dst (N := 6) rfl ?_); refine Kd.R_lit k35 _ 35 ?hg (N := 6) ?hd (xs := ([] : List (S35))) (inner := []) (ok := fun _ => True) (okp := fun _ => True) ?hr ?hp (fun _ hk => hk) trivial (Below.refl _ _) (Nat.le_refl _) (by simp) ?_; (case hd => rfl); (case hg => rfl); (case hr => first | (go_simp; done) | (go_simp; rfl)); (case hp => exact (Reps.none _ _)); intro v224 w3 ho4 hb hg_ hnew_; clear hg_ hnew_; (first | rw [← Ny223.out] at ho4 | (simp only [Int.reduceToNat] at ho4; rw [← Ny223.out] at ho4)); have n0_ := Aside0.mk (Kd.R_lower ho4 (below_size (by repeat (first | (with_reducible first | exact HB.out | apply below_alloc | apply pw_below_drewN | apply below_drew1 | refine below_set ?_ GE222.out) | exact HB.out)))); have n1_ := Aside0.mk (blk_below (g := gb222) (o := .cells #[.int .i64 a0_0, .slice A0_1 l0_1.length c0_1, .slice A0_2 l0_2.length c0_2] 25 (0, 0)) (by (with_reducible repeat (first | refine blk_drewN ?_ _ | refine blk_drew ?_ | refine blk_alloc ?_ _)); exact BK222.out) hb); have n2_ := Aside0.mk (below_step (by repeat (first | (with_reducible first | exact HB.out | apply below_alloc | apply pw_below_drewN | apply below_drew1 | refine below_set ?_ GE222.out) | exact HB.out)) hb); clear BK222; clear HB; have HO225 := n0_; have BK222 := n1_; have HB := n2_; clear n0_ n1_ n2_; clear hb ho4))
  go_loopg [3, 4] k (fun kq v3 v4 w' => ∃ (x3_1 : List (S35)) (x4_1 : Int), v4 = .int .i64 x4_1 ∧ Aside0 (cambiumref06_Keys.l0 kq x3_1 x4_1 a0_0 l0_1 l0_2 = some r) ∧ Aside0 (kq ≤ k) ∧ Aside0 (Kd.R k35 35 w' w.heap.size (fun _ => True) v3 x3_1) ∧ Aside0 (w'.heap[gb222]? = some (.cells #[.int .i64 a0_0, (.slice A0_1 l0_1.length c0_1), (.slice A0_2 l0_2.length c0_2)] 25 (0, 0))) ∧ Aside0 (Below w.heap.size w w'))
  case atStart => exact ⟨(y223), (0), (by first | rfl | (simp; done) | (simp [*]; done)), H', ⟨Nat.le_refl _⟩, ⟨by (with_reducible repeat (first | apply Kd.R_alloc | apply Kd.R_drewN | apply Kd.R_drew)); exact HO225.out⟩, ⟨by (with_reducible repeat (first | refine blk_drewN ?_ _ | refine blk_drew ?_ | refine blk_alloc ?_ _)); exact BK222.out⟩, ⟨by repeat (first | (with_reducible first | exact HB.out | apply below_alloc | apply pw_below_drewN | apply below_drew1 | refine below_set ?_ GE222.out) | exact HB.out)⟩⟩
  case round =>
    clear H'
    try clear c1
    try clear p2
    obtain ⟨x3_1, x4_1, rfl, HA, HK1, HO_3, BK222, HB⟩ := hrel
    cases gk with
    | zero => exact absurd (show none = some _ from HA.out) (by simp)
    | succ k1 =>
      have H := HA.out
      clear HA
      simp only [cambiumref06_Keys.l0] at H
      by_cases c5 : x4_1 < (l0_1.length : Int)
      · rw [if_pos c5] at H
        have c5b0 : decide (x4_1 < (l0_1.length : Int)) = true := decide_eq_true c5
        clear c5
        by_cases c6 : 0 ≤ x4_1
        · rw [if_pos c6] at H
          have c6b0 : decide (0 ≤ x4_1) = true := decide_eq_true c6
          clear c6
          by_cases c7 : x3_1.length < 5864062014805
          · rw [if_pos c7] at H
            have LMc7 := Aside0.mk c7
            clear c7
            obtain ⟨y227, hy227⟩ : ∃ y_ : List (S35), y_ = (x3_1 ++ [(⟨(rd_T52 l0_1 x4_1).f0.f0, (rd_T52 l0_1 x4_1).f0.f1, (rd_T52 l0_1 x4_1).f0.f2⟩ : S35)]) := ⟨_, rfl⟩
            replace H : (cambiumref06_Keys.l0 k1 y227 (wrap64 (x4_1 + 1)) a0_0 l0_1 l0_2) = some r := by first | (rw [hy227]; with_reducible exact H) | (have H2_ := (Option.bind_some _ _).symm.trans H; rw [hy227]; with_reducible exact H2_) | (have H2_ := (Option.bind_some _ _).symm.trans H; with_reducible exact H2_) | with_reducible exact H | (rw [hy227]; exact H) | exact H
            have Ny227 := Aside0.mk hy227
            clear hy227
            have H' := Aside0.mk H
            clear H
            have hcz8_0 : wr.cell? ⟨gb222, 0, none⟩ = some (.int .i64 a0_0) := (blk_cell BK222.out 0).trans rfl
            have hcz8_1 : wr.cell? ⟨gb222, 1, none⟩ = some (.slice A0_1 l0_1.length c0_1) := (blk_cell BK222.out 1).trans rfl
            have hcz8_2 : wr.cell? ⟨gb222, 2, none⟩ = some (.slice A0_2 l0_2.length c0_2) := (blk_cell BK222.out 2).trans rfl
            have hfz8_0 := blk_frozen BK222.out 0
            have hfz8_1 := blk_frozen BK222.out 1
            have hfz8_2 := blk_frozen BK222.out 2
            have p226 : 0 ≤ (x4_1 : Int) := of_decide_eq_true (by first | (with_reducible assumption) | assumption)
            have q226 : x4_1 < (l0_1.length : Int) := of_decide_eq_true (by first | (with_reducible assumption) | assumption)
            obtain ⟨ad226, A226_3, c226_3, e226, hx226_0, hx226_1, hx226_2, hx226_3, hl226_3, hi226_3⟩ := at_T52 HR0_1.out x4_1 p226 q226
            cases e226
            replace hx226_0 := (HB.out.cell (World.block_lt_of_cell? w _ hx226_0)).trans hx226_0
            replace hx226_1 := (HB.out.cell (World.block_lt_of_cell? w _ hx226_1)).trans hx226_1
            replace hx226_2 := (HB.out.cell (World.block_lt_of_cell? w _ hx226_2)).trans hx226_2
            replace hx226_3 := (HB.out.cell (World.block_lt_of_cell? w _ hx226_3)).trans hx226_3
            have HR226_3 := Aside0.mk hi226_3
            have HC226_3 := Aside0.mk hl226_3
            clear hi226_3 hl226_3
            replace p226 := eq_true p226
            replace q226 := eq_true q226
            go_wp2_with (first | ((with_reducible refine gate_builtin (b := .append) (xs := #[.tmp 14, .tmp 21]) rfl ?_); at_builtin; refine Kd.R_append k35 (w0 := w) w.heap.size rfl (.tmp 14) (.tmp 21) 38 35 (.agg #[(.int .i64 0), (.int .i64 0), (.int .i64 0)]) 24 rfl Try.underlying38 info35 rfl (by decide) (by omega) u3 x3_1 (⟨(rd_T52 l0_1 x4_1).f0.f0, (rd_T52 l0_1 x4_1).f0.f1, (rd_T52 l0_1 x4_1).f0.f2⟩ : S35) [.int .i64 ((rd_T52 l0_1 x4_1).f0.f0), .int .i64 ((rd_T52 l0_1 x4_1).f0.f1), .int .i64 ((rd_T52 l0_1 x4_1).f0.f2)] (fun _ => True) (fun _ => False) rfl rfl ?aP (fun _ hk => hk.elim) ?aF ?aO ?aB ?aS ?aL ?_; (case aP => exact k35_mkM _ _ _ (⟨(rd_T52 l0_1 x4_1).f0.f0, (rd_T52 l0_1 x4_1).f0.f1, (rd_T52 l0_1 x4_1).f0.f2⟩ : S35)); (case aB => exact (by repeat (first | (with_reducible first | exact HB.out | apply below_alloc | apply pw_below_drewN | apply below_drew1 | refine below_set ?_ GE222.out) | exact HB.out))); (case aF => exact (fun _ _ => trivial)); (case aO => exact (by (with_reducible repeat (first | apply Kd.R_alloc | apply Kd.R_drewN | apply Kd.R_drew)); exact HO_3.out)); (case aS => exact (below_size (by repeat (first | (with_reducible first | exact HB.out | apply below_alloc | apply pw_below_drewN | apply below_drew1 | refine below_set ?_ GE222.out) | exact HB.out)))); (case aL => have := LMc7.out; omega); intro v228 w9 ho hb hg hat; rw [← Ny227.out] at ho; have n0_ := Aside0.mk (blk_grown (g := gb222) (o := .cells #[.int .i64 a0_0, .slice (some ad226) l0_1.length c0_1, .slice A0_2 l0_2.length c0_2] 25 (0, 0)) (by (with_reducible repeat (first | refine blk_drewN ?_ _ | refine blk_drew ?_ | refine blk_alloc ?_ _)); exact BK222.out) hg (Kd.R_ne HO_3.out BK222.out (by decide))); have n1_ := Aside0.mk (hb); have n2_ := Aside0.mk (ho); clear BK222; clear HB; clear HO_3; have BK222 := n0_; have HB := n1_; have HO229 := n2_; clear n0_ n1_ n2_; clear ho hb hg hat))
            go_roundg k1
            case measure => have := HK1.out; omega
            case rel => exact ⟨(y227), (wrap64 (x4_1 + 1)), (by first | rfl | (simp; done) | (simp [*]; done)), H', ⟨by have := HK1.out; omega⟩, ⟨by (with_reducible repeat (first | apply Kd.R_alloc | apply Kd.R_drewN | apply Kd.R_drew)); exact HO229.out⟩, ⟨by (with_reducible repeat (first | refine blk_drewN ?_ _ | refine blk_drew ?_ | refine blk_alloc ?_ _)); exact BK222.out⟩, ⟨by repeat (first | (with_reducible first | exact HB.out | apply below_alloc | apply pw_below_drewN | apply below_drew1 | refine below_set ?_ GE222.out) | exact HB.out)⟩⟩
          · rw [if_neg c7] at H
            exact absurd H (by simp)
        · rw [if_neg c6] at H
          exact absurd H (by simp)
      · rw [if_neg c5] at H
        have c5b0 : decide (x4_1 < (l0_1.length : Int)) = false := decide_eq_false c5
        clear c5
        have H' := Aside0.mk H
        clear H
        have hcz10_0 : wr.cell? ⟨gb222, 0, none⟩ = some (.int .i64 a0_0) := (blk_cell BK222.out 0).trans rfl
        have hcz10_1 : wr.cell? ⟨gb222, 1, none⟩ = some (.slice A0_1 l0_1.length c0_1) := (blk_cell BK222.out 1).trans rfl
        have hcz10_2 : wr.cell? ⟨gb222, 2, none⟩ = some (.slice A0_2 l0_2.length c0_2) := (blk_cell BK222.out 2).trans rfl
        have hfz10_0 := blk_frozen BK222.out 0
        have hfz10_1 := blk_frozen BK222.out 1
        have hfz10_2 := blk_frozen BK222.out 2
        go_wp2
        go_loopg [3, 5] k1 (fun kq v3 v5 w' => ∃ (x3_2 : List (S35)) (x5_2 : Int), v5 = .int .i64 x5_2 ∧ Aside0 (cambiumref06_Keys.l1 kq x3_2 x5_2 a0_0 l0_1 l0_2 = some r) ∧ Aside0 (kq ≤ k1) ∧ Aside0 (Kd.R k35 35 w' w.heap.size (fun _ => True) v3 x3_2) ∧ Aside0 (w'.heap[gb222]? = some (.cells #[.int .i64 a0_0, (.slice A0_1 l0_1.length c0_1), (.slice A0_2 l0_2.length c0_2)] 25 (0, 0))) ∧ Aside0 (Below w.heap.size w w'))
        case atStart => exact ⟨(x3_1), (0), (by first | rfl | (simp; done) | (simp [*]; done)), H', ⟨Nat.le_refl _⟩, ⟨by (with_reducible repeat (first | apply Kd.R_alloc | apply Kd.R_drewN | apply Kd.R_drew)); exact HO_3.out⟩, ⟨by (with_reducible repeat (first | refine blk_drewN ?_ _ | refine blk_drew ?_ | refine blk_alloc ?_ _)); exact BK222.out⟩, ⟨by repeat (first | (with_reducible first | exact HB.out | apply below_alloc | apply pw_below_drewN | apply below_drew1 | refine below_set ?_ GE222.out) | exact HB.out)⟩⟩
        case round =>
          clear H'
          try clear c1
          try clear c2
          try clear p2
          try clear q2
          try clear hx2
          try clear c5
          try clear c5b0
          try clear c6
          try clear c6b0
          try clear p6
          try clear c7
          try clear hcz10_0
          try clear hcz10_1
          try clear hcz10_2
          try clear hcz8_0
          try clear hcz8_1
          try clear hcz8_2
          try clear hfz10_0
          try clear hfz10_1
          try clear hfz10_2
          try clear hfz8_0
          try clear hfz8_1
          try clear hfz8_2
          try clear hx226_0
          try clear hx226_1
          try clear hx226_2
          try clear hx226_3
          try clear p2
          try clear p226
          try clear q226
          obtain ⟨x3_2, x5_2, rfl, HA, HK2, HO_3, BK222, HB⟩ := hrel
          cases gk with
          | zero => exact absurd (show none = some _ from HA.out) (by simp)
          | succ k2 =>
            have H := HA.out
            clear HA
            simp only [cambiumref06_Keys.l1] at H
            by_cases c11 : x5_2 < (l0_2.length : Int)
            · rw [if_pos c11] at H
              have c11b0 : decide (x5_2 < (l0_2.length : Int)) = true := decide_eq_true c11
              clear c11
              by_cases c12 : 0 ≤ x5_2
              · rw [if_pos c12] at H
                have c12b0 : decide (0 ≤ x5_2) = true := decide_eq_true c12
                clear c12
                by_cases c13 : x3_2.length < 5864062014805
                · rw [if_pos c13] at H
                  have LMc13 := Aside0.mk c13
                  clear c13
                  obtain ⟨y231, hy231⟩ : ∃ y_ : List (S35), y_ = (x3_2 ++ [(⟨(rd_T57 l0_2 x5_2).f0.f0, (rd_T57 l0_2 x5_2).f0.f1, (rd_T57 l0_2 x5_2).f0.f2⟩ : S35)]) := ⟨_, rfl⟩
                  replace H : (cambiumref06_Keys.l1 k2 y231 (wrap64 (x5_2 + 1)) a0_0 l0_1 l0_2) = some r := by first | (rw [hy231]; with_reducible exact H) | (have H2_ := (Option.bind_some _ _).symm.trans H; rw [hy231]; with_reducible exact H2_) | (have H2_ := (Option.bind_some _ _).symm.trans H; with_reducible exact H2_) | with_reducible exact H | (rw [hy231]; exact H) | exact H
                  have Ny231 := Aside0.mk hy231
                  clear hy231
                  have H' := Aside0.mk H
                  clear H
                  have hcz14_0 : wr.cell? ⟨gb222, 0, none⟩ = some (.int .i64 a0_0) := (blk_cell BK222.out 0).trans rfl
                  have hcz14_1 : wr.cell? ⟨gb222, 1, none⟩ = some (.slice A0_1 l0_1.length c0_1) := (blk_cell BK222.out 1).trans rfl
                  have hcz14_2 : wr.cell? ⟨gb222, 2, none⟩ = some (.slice A0_2 l0_2.length c0_2) := (blk_cell BK222.out 2).trans rfl
                  have hfz14_0 := blk_frozen BK222.out 0
                  have hfz14_1 := blk_frozen BK222.out 1
                  have hfz14_2 := blk_frozen BK222.out 2
                  have p230 : 0 ≤ (x5_2 : Int) := of_decide_eq_true (by first | (with_reducible assumption) | assumption)
                  have q230 : x5_2 < (l0_2.length : Int) := of_decide_eq_true (by first | (with_reducible assumption) | assumption)
                  obtain ⟨ad230, e230, hx230_0, hx230_1, hx230_2, hx230_3⟩ := at_T57 HR0_2.out x5_2 p230 q230
                  cases e230
                  replace hx230_0 := (HB.out.cell (World.block_lt_of_cell? w _ hx230_0)).trans hx230_0
                  replace hx230_1 := (HB.out.cell (World.block_lt_of_cell? w _ hx230_1)).trans hx230_1
                  replace hx230_2 := (HB.out.cell (World.block_lt_of_cell? w _ hx230_2)).trans hx230_2
                  replace hx230_3 := (HB.out.cell (World.block_lt_of_cell? w _ hx230_3)).trans hx230_3
                  replace p230 := eq_true p230
                  replace q230 := eq_true q230
                  go_wp2_with (first | ((with_reducible refine gate_builtin (b := .append) (xs := #[.tmp 30, .tmp 37]) rfl ?_); at_builtin; refine Kd.R_append k35 (w0 := w) w.heap.size rfl (.tmp 30) (.tmp 37) 38 35 (.agg #[(.int .i64 0), (.int .i64 0), (.int .i64 0)]) 24 rfl Try.underlying38 info35 rfl (by decide) (by omega) u3 x3_2 (⟨(rd_T57 l0_2 x5_2).f0.f0, (rd_T57 l0_2 x5_2).f0.f1, (rd_T57 l0_2 x5_2).f0.f2⟩ : S35) [.int .i64 ((rd_T57 l0_2 x5_2).f0.f0), .int .i64 ((rd_T57 l0_2 x5_2).f0.f1), .int .i64 ((rd_T57 l0_2 x5_2).f0.f2)] (fun _ => True) (fun _ => False) rfl rfl ?aP (fun _ hk => hk.elim) ?aF ?aO ?aB ?aS ?aL ?_; (case aP => exact k35_mkM _ _ _ (⟨(rd_T57 l0_2 x5_2).f0.f0, (rd_T57 l0_2 x5_2).f0.f1, (rd_T57 l0_2 x5_2).f0.f2⟩ : S35)); (case aB => exact (by repeat (first | (with_reducible first | exact HB.out | apply below_alloc | apply pw_below_drewN | apply below_drew1 | refine below_set ?_ GE222.out) | exact HB.out))); (case aF => exact (fun _ _ => trivial)); (case aO => exact (by (with_reducible repeat (first | apply Kd.R_alloc | apply Kd.R_drewN | apply Kd.R_drew)); exact HO_3.out)); (case aS => exact (below_size (by repeat (first | (with_reducible first | exact HB.out | apply below_alloc | apply pw_below_drewN | apply below_drew1 | refine below_set ?_ GE222.out) | exact HB.out)))); (case aL => have := LMc13.out; omega); intro v232 w15 ho hb hg hat; rw [← Ny231.out] at ho; have n0_ := Aside0.mk (blk_grown (g := gb222) (o := .cells #[.int .i64 a0_0, .slice A0_1 l0_1.length c0_1, .slice (some ad230) l0_2.length c0_2] 25 (0, 0)) (by (with_reducible repeat (first | refine blk_drewN ?_ _ | refine blk_drew ?_ | refine blk_alloc ?_ _)); exact BK222.out) hg (Kd.R_ne HO_3.out BK222.out (by decide))); have n1_ := Aside0.mk (hb); have n2_ := Aside0.mk (ho); clear BK222; clear HB; clear HO_3; have BK222 := n0_; have HB := n1_; have HO233 := n2_; clear n0_ n1_ n2_; clear ho hb hg hat))
                  go_roundg k2
                  case measure => have := HK1.out; have := HK2.out; omega
                  case rel => exact ⟨(y231), (wrap64 (x5_2 + 1)), (by first | rfl | (simp; done) | (simp [*]; done)), H', ⟨by have := HK1.out; have := HK2.out; omega⟩, ⟨by (with_reducible repeat (first | apply Kd.R_alloc | apply Kd.R_drewN | apply Kd.R_drew)); exact HO233.out⟩, ⟨by (with_reducible repeat (first | refine blk_drewN ?_ _ | refine blk_drew ?_ | refine blk_alloc ?_ _)); exact BK222.out⟩, ⟨by repeat (first | (with_reducible first | exact HB.out | apply below_alloc | apply pw_below_drewN | apply below_drew1 | refine below_set ?_ GE222.out) | exact HB.out)⟩⟩
                · rw [if_neg c13] at H
                  exact absurd H (by simp)
              · rw [if_neg c12] at H
                exact absurd H (by simp)
            · rw [if_neg c11] at H
              have c11b0 : decide (x5_2 < (l0_2.length : Int)) = false := decide_eq_false c11
              clear c11
              obtain rfl := Option.some.inj H
              have hcz16_0 : wr.cell? ⟨gb222, 0, none⟩ = some (.int .i64 a0_0) := (blk_cell BK222.out 0).trans rfl
              have hcz16_1 : wr.cell? ⟨gb222, 1, none⟩ = some (.slice A0_1 l0_1.length c0_1) := (blk_cell BK222.out 1).trans rfl
              have hcz16_2 : wr.cell? ⟨gb222, 2, none⟩ = some (.slice A0_2 l0_2.length c0_2) := (blk_cell BK222.out 2).trans rfl
              have hfz16_0 := blk_frozen BK222.out 0
              have hfz16_1 := blk_frozen BK222.out 1
              have hfz16_2 := blk_frozen BK222.out 2
              go_wp2
              go_ret
              exact ⟨_, by first | rfl | (simp [errW_none, errW_some] <;> rfl) | (simp [*, errW_none, errW_some] <;> rfl), by (with_reducible repeat (first | apply Kd.R_alloc | apply Kd.R_drewN | apply Kd.R_drew)); exact HO_3.out, by repeat (first | (with_reducible first | exact HB.out | apply below_alloc | apply pw_below_drewN | apply below_drew1 | refine below_set ?_ GE222.out) | exact HB.out)⟩

/-! ### cambiumref05_Less: function 17 -/
def cambiumref05_Less.f (a0_0 : Int) (a0_1 : Int) (a0_2 : Int) (a1_0 : Int) (a1_1 : Int) (a1_2 : Int) : Option (Bool) := if a0_0 = a1_0 then (if a0_1 = a1_1 then (some (decide (a0_2 < a1_2))) else (some (decide (a0_1 < a1_1)))) else (some (decide (a0_0 < a1_0)))
set_option maxHeartbeats 8000000 in
set_option maxRecDepth 100000 in
theorem cambiumref05_Less.calls (a0_0 : Int) (a0_1 : Int) (a0_2 : Int) (a1_0 : Int) (a1_1 : Int) (a1_2 : Int) (r : Bool) (w : World) (h : cambiumref05_Less.f a0_0 a0_1 a0_2 a1_0 a1_1 a1_2 = some r) :
    Calls Try.prog 17 #[.agg #[.int .i64 a0_0, .int .i64 a0_1, .int .i64 a0_2], .agg #[.int .i64 a1_0, .int .i64 a1_1, .int .i64 a1_2]] w fun e w' => e = .returned (.bool r) ∧ Below w.heap.size w w' := by
  have hu35 := Try.underlying35
  have HB := Aside0.mk (Below.refl w.heap.size w)
  have H : (if a0_0 = a1_0 then (if a0_1 = a1_1 then (some (decide (a0_2 < a1_2))) else (some (decide (a0_1 < a1_1)))) else (some (decide (a0_0 < a1_0)))) = some r := h
  clear h
  by_cases c3 : a0_0 = a1_0
  · rw [if_pos c3] at H
    have c3b0 : (a0_0 == a1_0) = true := beq_iff_eq.mpr c3
    have c3b1 : (a0_0 != a1_0) = false := bne_eq_false_iff_eq.mpr c3
    clear c3
    by_cases c4 : a0_1 = a1_1
    · rw [if_pos c4] at H
      have c4b0 : (a0_1 == a1_1) = true := beq_iff_eq.mpr c4
      have c4b1 : (a0_1 != a1_1) = false := bne_eq_false_iff_eq.mpr c4
      clear c4
      obtain rfl := Option.some.inj H
      go_enter Try.func17, Try.ntmps17
      go_wp2_with (first | ((with_reducible refine gate_dst (N := 2) rfl ?_); refine box_event ?hg (N := 2) ?hd (cs := #[.int .i64 a0_0, .int .i64 a0_1, .int .i64 a0_2]) (t := 35) ?hr ?_; (case hd => rfl); (case hg => rfl); (case hr => first | (go_simp; done) | (go_simp; rfl)); intro gb234 hg w5 hbox hb; have n0_ := Aside0.mk (below_step (by repeat (first | (with_reducible first | exact HB.out | apply below_alloc | apply pw_below_drewN | apply below_drew1) | exact HB.out)) hb); have n1_ := Aside0.mk (hbox); have n2_ := Aside0.mk ((by rw [hg]; exact (below_size (by repeat (first | (with_reducible first | exact HB.out | apply below_alloc | apply pw_below_drewN | apply below_drew1) | exact HB.out))) : w.heap.size ≤ gb234)); have n3_ := Aside0.mk ((by rw [hg]; exact (below_size (by repeat (first | (with_reducible first | exact HB.out | apply below_alloc | apply pw_below_drewN | apply below_drew1) | exact HB.out))) : w.heap.size ≤ gb234)); clear HB; have HB := n0_; have BK234 := n1_; have GW234 := n2_; have GE234 := n3_; clear n0_ n1_ n2_ n3_; clear hb hbox hg) | ((with_reducible refine gate_dst (N := 3) rfl ?_); refine box_event ?hg (N := 3) ?hd (cs := #[.int .i64 a1_0, .int .i64 a1_1, .int .i64 a1_2]) (t := 35) ?hr ?_; (case hd => rfl); (case hg => rfl); (case hr => first | (go_simp; done) | (go_simp; rfl)); intro gb235 hg w6 hbox hb; have n0_ := Aside0.mk (blk_below (g := gb234) (o := .cells #[.int .i64 a0_0, .int .i64 a0_1, .int .i64 a0_2] 35 (0, 0)) (by (with_reducible repeat (first | refine blk_drewN ?_ _ | refine blk_drew ?_ | refine blk_alloc ?_ _)); exact BK234.out) hb); have n1_ := Aside0.mk (below_step (by repeat (first | (with_reducible first | exact HB.out | apply below_alloc | apply pw_below_drewN | apply below_drew1 | refine below_set ?_ GE234.out) | exact HB.out)) hb); have n2_ := Aside0.mk (hbox); have n3_ := Aside0.mk ((by rw [hg]; exact (below_size (by repeat (first | (with_reducible first | exact HB.out | apply below_alloc | apply pw_below_drewN | apply below_drew1 | refine below_set ?_ GE234.out) | exact HB.out))) : w.heap.size ≤ gb235)); have n4_ := Aside0.mk ((by rw [hg]; exact (below_size (by repeat (first | (with_reducible first | exact HB.out | apply below_alloc | apply pw_below_drewN | apply below_drew1 | refine below_set ?_ GE234.out) | exact HB.out))) : w.heap.size ≤ gb235)); have n5_ := Aside0.mk ((by rw [hg]; exact Nat.ne_of_lt (blk_lt (g := gb234) (o := .cells #[.int .i64 a0_0, .int .i64 a0_1, .int .i64 a0_2] 35 (0, 0)) (by (with_reducible repeat (first | refine blk_drewN ?_ _ | refine blk_drew ?_ | refine blk_alloc ?_ _)); exact BK234.out)) : gb234 ≠ gb235)); have n6_ := Aside0.mk ((by rw [hg]; exact Nat.ne_of_gt (blk_lt (g := gb234) (o := .cells #[.int .i64 a0_0, .int .i64 a0_1, .int .i64 a0_2] 35 (0, 0)) (by (with_reducible repeat (first | refine blk_drewN ?_ _ | refine blk_drew ?_ | refine blk_alloc ?_ _)); exact BK234.out)) : gb235 ≠ gb234)); clear BK234; clear HB; have BK234 := n0_; have HB := n1_; have BK235 := n2_; have GW235 := n3_; have GE235 := n4_; have NB234_235 := n5_; have NB235_234 := n6_; clear n0_ n1_ n2_ n3_ n4_ n5_ n6_; clear hb hbox hg; have hnb7 := NB234_235.out; have hnc7 := NB235_234.out; have hcz8_0 : w6.cell? ⟨gb234, 0, none⟩ = some (.int .i64 a0_0) := (blk_cell BK234.out 0).trans rfl; have hcz8_1 : w6.cell? ⟨gb234, 1, none⟩ = some (.int .i64 a0_1) := (blk_cell BK234.out 1).trans rfl; have hcz8_2 : w6.cell? ⟨gb234, 2, none⟩ = some (.int .i64 a0_2) := (blk_cell BK234.out 2).trans rfl; have hfz8_0 := blk_frozen BK234.out 0; have hfz8_1 := blk_frozen BK234.out 1; have hfz8_2 := blk_frozen BK234.out 2; have hcz9_0 : w6.cell? ⟨gb235, 0, none⟩ = some (.int .i64 a1_0) := (blk_cell BK235.out 0).trans rfl; have hcz9_1 : w6.cell? ⟨gb235, 1, none⟩ = some (.int .i64 a1_1) := (blk_cell BK235.out 1).trans rfl; have hcz9_2 : w6.cell? ⟨gb235, 2, none⟩ = some (.int .i64 a1_2) := (blk_cell BK235.out 2).trans rfl; have hfz9_0 := blk_frozen BK235.out 0; have hfz9_1 := blk_frozen BK235.out 1; have hfz9_2 := blk_frozen BK235.out 2))
      go_ret
      exact ⟨by first | rfl | (simp [errW_none, errW_some] <;> rfl) | (simp [*, errW_none, errW_some] <;> rfl), by repeat (first | (with_reducible first | exact HB.out | apply below_alloc | apply pw_below_drewN | apply below_drew1 | refine below_set ?_ GE234.out | refine below_set ?_ GE235.out) | exact HB.out)⟩
    · rw [if_neg c4] at H
      have c4b0 : (a0_1 == a1_1) = false := beq_eq_false_iff_ne.mpr c4
      have c4b1 : (a0_1 != a1_1) = true := bne_iff_ne.mpr c4
      obtain rfl := Option.some.inj H
      go_enter Try.func17, Try.ntmps17
      go_wp2_with (first | ((with_reducible refine gate_dst (N := 2) rfl ?_); refine box_event ?hg (N := 2) ?hd (cs := #[.int .i64 a0_0, .int .i64 a0_1, .int .i64 a0_2]) (t := 35) ?hr ?_; (case hd => rfl); (case hg => rfl); (case hr => first | (go_simp; done) | (go_simp; rfl)); intro gb234 hg w10 hbox hb; have n0_ := Aside0.mk (below_step (by repeat (first | (with_reducible first | exact HB.out | apply below_alloc | apply pw_below_drewN | apply below_drew1) | exact HB.out)) hb); have n1_ := Aside0.mk (hbox); have n2_ := Aside0.mk ((by rw [hg]; exact (below_size (by repeat (first | (with_reducible first | exact HB.out | apply below_alloc | apply pw_below_drewN | apply below_drew1) | exact HB.out))) : w.heap.size ≤ gb234)); have n3_ := Aside0.mk ((by rw [hg]; exact (below_size (by repeat (first | (with_reducible first | exact HB.out | apply below_alloc | apply pw_below_drewN | apply below_drew1) | exact HB.out))) : w.heap.size ≤ gb234)); clear HB; have HB := n0_; have BK234 := n1_; have GW234 := n2_; have GE234 := n3_; clear n0_ n1_ n2_ n3_; clear hb hbox hg) | ((with_reducible refine gate_dst (N := 3) rfl ?_); refine box_event ?hg (N := 3) ?hd (cs := #[.int .i64 a1_0, .int .i64 a1_1, .int .i64 a1_2]) (t := 35) ?hr ?_; (case hd => rfl); (case hg => rfl); (case hr => first | (go_simp; done) | (go_simp; rfl)); intro gb235 hg w11 hbox hb; have n0_ := Aside0.mk (blk_below (g := gb234) (o := .cells #[.int .i64 a0_0, .int .i64 a0_1, .int .i64 a0_2] 35 (0, 0)) (by (with_reducible repeat (first | refine blk_drewN ?_ _ | refine blk_drew ?_ | refine blk_alloc ?_ _)); exact BK234.out) hb); have n1_ := Aside0.mk (below_step (by repeat (first | (with_reducible first | exact HB.out | apply below_alloc | apply pw_below_drewN | apply below_drew1 | refine below_set ?_ GE234.out) | exact HB.out)) hb); have n2_ := Aside0.mk (hbox); have n3_ := Aside0.mk ((by rw [hg]; exact (below_size (by repeat (first | (with_reducible first | exact HB.out | apply below_alloc | apply pw_below_drewN | apply below_drew1 | refine below_set ?_ GE234.out) | exact HB.out))) : w.heap.size ≤ gb235)); have n4_ := Aside0.mk ((by rw [hg]; exact (below_size (by repeat (first | (with_reducible first | exact HB.out | apply below_alloc | apply pw_below_drewN | apply below_drew1 | refine below_set ?_ GE234.out) | exact HB.out))) : w.heap.size ≤ gb235)); have n5_ := Aside0.mk ((by rw [hg]; exact Nat.ne_of_lt (blk_lt (g := gb234) (o := .cells #[.int .i64 a0_0, .int .i64 a0_1, .int .i64 a0_2] 35 (0, 0)) (by (with_reducible repeat (first | refine blk_drewN ?_ _ | refine blk_drew ?_ | refine blk_alloc ?_ _)); exact BK234.out)) : gb234 ≠ gb235)); have n6_ := Aside0.mk ((by rw [hg]; exact Nat.ne_of_gt (blk_lt (g := gb234) (o := .cells #[.int .i64 a0_0, .int .i64 a0_1, .int .i64 a0_2] 35 (0, 0)) (by (with_reducible repeat (first | refine blk_drewN ?_ _ | refine blk_drew ?_ | refine blk_alloc ?_ _)); exact BK234.out)) : gb235 ≠ gb234)); clear BK234; clear HB; have BK234 := n0_; have HB := n1_; have BK235 := n2_; have GW235 := n3_; have GE235 := n4_; have NB234_235 := n5_; have NB235_234 := n6_; clear n0_ n1_ n2_ n3_ n4_ n5_ n6_; clear hb hbox hg; have hnb12 := NB234_235.out; have hnc12 := NB235_234.out; have hcz13_0 : w11.cell? ⟨gb234, 0, none⟩ = some (.int .i64 a0_0) := (blk_cell BK234.out 0).trans rfl; have hcz13_1 : w11.cell? ⟨gb234, 1, none⟩ = some (.int .i64 a0_1) := (blk_cell BK234.out 1).trans rfl; have hcz13_2 : w11.cell? ⟨gb234, 2, none⟩ = some (.int .i64 a0_2) := (blk_cell BK234.out 2).trans rfl; have hfz13_0 := blk_frozen BK234.out 0; have hfz13_1 := blk_frozen BK234.out 1; have hfz13_2 := blk_frozen BK234.out 2; have hcz14_0 : w11.cell? ⟨gb235, 0, none⟩ = some (.int .i64 a1_0) := (blk_cell BK235.out 0).trans rfl; have hcz14_1 : w11.cell? ⟨gb235, 1, none⟩ = some (.int .i64 a1_1) := (blk_cell BK235.out 1).trans rfl; have hcz14_2 : w11.cell? ⟨gb235, 2, none⟩ = some (.int .i64 a1_2) := (blk_cell BK235.out 2).trans rfl; have hfz14_0 := blk_frozen BK235.out 0; have hfz14_1 := blk_frozen BK235.out 1; have hfz14_2 := blk_frozen BK235.out 2))
      go_ret
      exact ⟨by first | rfl | (simp [errW_none, errW_some] <;> rfl) | (simp [*, errW_none, errW_some] <;> rfl), by repeat (first | (with_reducible first | exact HB.out | apply below_alloc | apply pw_below_drewN | apply below_drew1 | refine below_set ?_ GE234.out | refine below_set ?_ GE235.out) | exact HB.out)⟩
  · rw [if_neg c3] at H
    have c3b0 : (a0_0 == a1_0) = false := beq_eq_false_iff_ne.mpr c3
    have c3b1 : (a0_0 != a1_0) = true := bne_iff_ne.mpr c3
    obtain rfl := Option.some.inj H
    go_enter Try.func17, Try.ntmps17
    go_wp2_with (first | ((with_reducible refine gate_dst (N := 2) rfl ?_); refine box_event ?hg (N := 2) ?hd (cs := #[.int .i64 a0_0, .int .i64 a0_1, .int .i64 a0_2]) (t := 35) ?hr ?_; (case hd => rfl); (case hg => rfl); (case hr => first | (go_simp; done) | (go_simp; rfl)); intro gb234 hg w15 hbox hb; have n0_ := Aside0.mk (below_step (by repeat (first | (with_reducible first | exact HB.out | apply below_alloc | apply pw_below_drewN | apply below_drew1) | exact HB.out)) hb); have n1_ := Aside0.mk (hbox); have n2_ := Aside0.mk ((by rw [hg]; exact (below_size (by repeat (first | (with_reducible first | exact HB.out | apply below_alloc | apply pw_below_drewN | apply below_drew1) | exact HB.out))) : w.heap.size ≤ gb234)); have n3_ := Aside0.mk ((by rw [hg]; exact (below_size (by repeat (first | (with_reducible first | exact HB.out | apply below_alloc | apply pw_below_drewN | apply below_drew1) | exact HB.out))) : w.heap.size ≤ gb234)); clear HB; have HB := n0_; have BK234 := n1_; have GW234 := n2_; have GE234 := n3_; clear n0_ n1_ n2_ n3_; clear hb hbox hg) | ((with_reducible refine gate_dst (N := 3) rfl ?_); refine box_event ?hg (N := 3) ?hd (cs := #[.int .i64 a1_0, .int .i64 a1_1, .int .i64 a1_2]) (t := 35) ?hr ?_; (case hd => rfl); (case hg => rfl); (case hr => first | (go_simp; done) | (go_simp; rfl)); intro gb235 hg w16 hbox hb; have n0_ := Aside0.mk (blk_below (g := gb234) (o := .cells #[.int .i64 a0_0, .int .i64 a0_1, .int .i64 a0_2] 35 (0, 0)) (by (with_reducible repeat (first | refine blk_drewN ?_ _ | refine blk_drew ?_ | refine blk_alloc ?_ _)); exact BK234.out) hb); have n1_ := Aside0.mk (below_step (by repeat (first | (with_reducible first | exact HB.out | apply below_alloc | apply pw_below_drewN | apply below_drew1 | refine below_set ?_ GE234.out) | exact HB.out)) hb); have n2_ := Aside0.mk (hbox); have n3_ := Aside0.mk ((by rw [hg]; exact (below_size (by repeat (first | (with_reducible first | exact HB.out | apply below_alloc | apply pw_below_drewN | apply below_drew1 | refine below_set ?_ GE234.out) | exact HB.out))) : w.heap.size ≤ gb235)); have n4_ := Aside0.mk ((by rw [hg]; exact (below_size (by repeat (first | (with_reducible first | exact HB.out | apply below_alloc | apply pw_below_drewN | apply below_drew1 | refine below_set ?_ GE234.out) | exact HB.out))) : w.heap.size ≤ gb235)); have n5_ := Aside0.mk ((by rw [hg]; exact Nat.ne_of_lt (blk_lt (g := gb234) (o := .cells #[.int .i64 a0_0, .int .i64 a0_1, .int .i64 a0_2] 35 (0, 0)) (by (with_reducible repeat (first | refine blk_drewN ?_ _ | refine blk_drew ?_ | refine blk_alloc ?_ _)); exact BK234.out)) : gb234 ≠ gb235)); have n6_ := Aside0.mk ((by rw [hg]; exact Nat.ne_of_gt (blk_lt (g := gb234) (o := .cells #[.int .i64 a0_0, .int .i64 a0_1, .int .i64 a0_2] 35 (0, 0)) (by (with_reducible repeat (first | refine blk_drewN ?_ _ | refine blk_drew ?_ | refine blk_alloc ?_ _)); exact BK234.out)) : gb235 ≠ gb234)); clear BK234; clear HB; have BK234 := n0_; have HB := n1_; have BK235 := n2_; have GW235 := n3_; have GE235 := n4_; have NB234_235 := n5_; have NB235_234 := n6_; clear n0_ n1_ n2_ n3_ n4_ n5_ n6_; clear hb hbox hg; have hnb17 := NB234_235.out; have hnc17 := NB235_234.out; have hcz18_0 : w16.cell? ⟨gb234, 0, none⟩ = some (.int .i64 a0_0) := (blk_cell BK234.out 0).trans rfl; have hcz18_1 : w16.cell? ⟨gb234, 1, none⟩ = some (.int .i64 a0_1) := (blk_cell BK234.out 1).trans rfl; have hcz18_2 : w16.cell? ⟨gb234, 2, none⟩ = some (.int .i64 a0_2) := (blk_cell BK234.out 2).trans rfl; have hfz18_0 := blk_frozen BK234.out 0; have hfz18_1 := blk_frozen BK234.out 1; have hfz18_2 := blk_frozen BK234.out 2; have hcz19_0 : w16.cell? ⟨gb235, 0, none⟩ = some (.int .i64 a1_0) := (blk_cell BK235.out 0).trans rfl; have hcz19_1 : w16.cell? ⟨gb235, 1, none⟩ = some (.int .i64 a1_1) := (blk_cell BK235.out 1).trans rfl; have hcz19_2 : w16.cell? ⟨gb235, 2, none⟩ = some (.int .i64 a1_2) := (blk_cell BK235.out 2).trans rfl; have hfz19_0 := blk_frozen BK235.out 0; have hfz19_1 := blk_frozen BK235.out 1; have hfz19_2 := blk_frozen BK235.out 2))
    go_ret
    exact ⟨by first | rfl | (simp [errW_none, errW_some] <;> rfl) | (simp [*, errW_none, errW_some] <;> rfl), by repeat (first | (with_reducible first | exact HB.out | apply below_alloc | apply pw_below_drewN | apply below_drew1 | refine below_set ?_ GE234.out | refine below_set ?_ GE235.out) | exact HB.out)⟩

end Go.Proofs.Ytcjnknpbikfimaa.P
