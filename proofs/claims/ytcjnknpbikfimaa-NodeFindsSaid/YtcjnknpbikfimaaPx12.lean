/- Functions and contracts, written by a program (mkprint.py, a wrapper of ours around the print); texts between GIVEN marks are ours. -/
import Derived.Test.YtcjnknpbikfimaaPx0
import Derived.Test.YtcjnknpbikfimaaPx1
import Derived.Test.YtcjnknpbikfimaaPx4
import Derived.Test.YtcjnknpbikfimaaPx5
namespace Go.Proofs.Ytcjnknpbikfimaa.P
open Go.RowKit Go.Proofs.YtcjnknpbikfimaaW.PrintWords Go.Proofs.YtcjnknpbikfimaaW.PrintLast Go.Proofs.YtcjnknpbikfimaaW.PrintMore
attribute [local go_sem] max2_int min2_int max_two min_two max_three min_three max_four min_four   -- for this text's walks alone
set_option linter.unusedVariables false
set_option linter.unusedSimpArgs false

-- NOT PRINTED: function 38 (api_Item_38)

-- NOT PRINTED: function 39 (node_Seek_1)

-- NOT PRINTED: function 41 (api_Kid_41)

-- NOT PRINTED: function 42 (node_Seek_2)

/-! ### GIVEN node_Seek: function 15 -/
section
open Go.Proofs.Ytcjnknpbikfimaa.Sep
attribute [local go_sem high] eqA35
def keyV (k : S35) : Value := .agg #[.int .i64 k.f0, .int .i64 k.f1, .int .i64 k.f2]
def keyC (k : S35) : Array Value := #[.int .i64 k.f0, .int .i64 k.f1, .int .i64 k.f2]
variable {w0 w : World} {g : Nat} {k : S35} {ps : List HP}
theorem keyC_cells (h : St w0 w (blk g (keyC k) 35 :: ps)) : w.cell? ⟨g, 0, none⟩ = some (.int .i64 k.f0) ∧ w.cell? ⟨g, 1, none⟩ = some (.int .i64 k.f1) ∧ w.cell? ⟨g, 2, none⟩ = some (.int .i64 k.f2) := by
 have hb := h.blk_is
 exact ⟨blk_cell hb 0, blk_cell hb 1, blk_cell hb 2⟩
set_option maxHeartbeats 1000000 in
theorem node_Seek1.st (x : S52) (A : Option Addr) (n c : Nat) (h : St w0 w (blk g (keyC k) 35 :: ps)) :
  Calls Try.prog 39 #[.agg #[.int .i64 x.f0.f0, .int .i64 x.f0.f1, .int .i64 x.f0.f2, .slice A n c], .pointer (some ⟨g, 0, none⟩)] w fun e w' => e = .returned (.bool (lessK x.f0 k)) ∧ St w0 w' (blk g (keyC k) 35 :: ps) := by
 have H := Aside0.mk h
 have H1 := Aside0.mk (h.alloc (.cells #[.int .i64 x.f0.f0, .int .i64 x.f0.f1, .int .i64 x.f0.f2, .slice A n c] 52))
 obtain ⟨k0, k1, k2⟩ := keyC_cells H1.out
 clear h
 go_enter Try.func39, Try.ntmps39
 go_wp2_with fail
 refine (key_Less.calls 4 _ _ _ _ _ _ _ _ (LessK x.f0 k)).mono ?_
 rintro e w' ⟨rfl, hb⟩
 go_wp2
 go_ret
 exact ⟨rfl, H1.out.below_ hb⟩
/-- How many stand ahead, the first of which all are so. -/
def firstN {α : Type} (p : α → Bool) (l : List α) : Nat := (l.takeWhile p).length
theorem firstN_le {α : Type} (p : α → Bool) (l : List α) : firstN p l ≤ l.length := by
 unfold firstN
 induction l with
 | nil => exact Nat.le_refl _
 | cons a t ih =>
  rw [List.takeWhile_cons]
  split
  ·simp only [List.length_cons]; omega
  ·exact Nat.zero_le _
theorem firstN_is {α : Type} (p : α → Bool) (z : α) : ∀ (l : List α) (a : Nat), (∀ j, j < a → p (l.getD j z) = true) → a ≤ l.length → (a = l.length ∨ p (l.getD a z) = false) → firstN p l = a := by
 intro l
 induction l with
 | nil => intro a _ ha _; simp only [List.length_nil] at ha; unfold firstN; simp; omega
 | cons x t ih =>
  intro a h1 h2 h3
  cases a with
  | zero =>
   rcases h3 with h | h
   ·simp at h
   ·unfold firstN; rw [List.takeWhile_cons, if_neg (by rw [show p x = false from h]; decide)]; rfl
  | succ a =>
   have h0 : p x = true := h1 0 (by omega)
   have := ih a (fun j hj => h1 (j + 1) (by omega)) (by simpa using h2) (by
    rcases h3 with h | h
    ·left; simpa using h
    ·right; exact h)
   unfold firstN at this ⊢
   rw [List.takeWhile_cons, if_pos h0, List.length_cons, this]
theorem firstN_all {α : Type} (p : α → Bool) (z : α) (l : List α) : ∀ j, j < firstN p l → p (l.getD j z) = true := by
 induction l with
 | nil => intro j hj; unfold firstN at hj; simp at hj
 | cons x t ih =>
  intro j hj
  unfold firstN at hj
  rw [List.takeWhile_cons] at hj
  split at hj
  ·cases j with
   | zero => assumption
   | succ j => exact ih j (by simpa [firstN] using hj)
  ·simp at hj
theorem inc_k (a N : Nat) (h1 : a < N) (h2 : N ≤ 140737488355327) : wrap64 ((a : Int) + 1) = ((a + 1 : Nat) : Int) := by unfold wrap64; omega
theorem meas_k (a n : Nat) (h : a < n) : n - (intOf (.int .i64 ((a + 1 : Nat) : Int))).toNat < n - (intOf (.int .i64 (a : Int))).toNat := by show n - ((a + 1 : Nat) : Int).toNat < n - (a : Int).toNat; omega
set_option maxHeartbeats 2000000 in
theorem seek_Item.st (A : Option Addr) (N c : Nat) (l : List S52) (hr : Kd.C k52 w0 A N l) (hN : N ≤ 140737488355327) (h : St w0 w (blk g (keyC k) 35 :: ps)) :
  Calls Try.prog 38 #[.slice A N c, .func (.func 39) #[] #[.pointer (some ⟨g, 0, none⟩)]] w fun e w' => e = .returned (.int .i64 (firstN (fun x => lessK x.f0 k) l : Nat)) ∧ St w0 w' (blk g (keyC k) 35 :: ps) := by
 have H := Aside0.mk h
 have HR := Aside0.mk hr
 have HL := Aside0.mk hr.1
 have HN := Aside0.mk hN
 clear h hr hN
 go_enter Try.func38, Try.ntmps38
 go_wp2_with fail
 go_loopw [5, 6, 9] (fun _ _ i wr => ∃ a : Nat, i = .int .i64 a ∧ a ≤ N ∧ Aside0 (St w0 wr (blk g (keyC k) 35 :: ps)) ∧ Aside0 (∀ j, j < a → lessK (l.getD j z52).f0 k = true)) (fun _ _ i _ => N - (intOf i).toNat)
 case atStart => exact ⟨0, rfl, Nat.zero_le _, H, ⟨fun j hj => absurd hj (Nat.not_lt_zero _)⟩⟩
 case round =>
  clear H
  obtain ⟨a, rfl, ha, H, HP⟩ := hrel
  by_cases hlt : a < N
  ·have h2 : (a : Int) < (N : Int) := Int.ofNat_lt.2 hlt
   have h1 : decide ((a : Int) < (N : Int)) = true := decide_eq_true h2
   obtain ⟨ad, A3, c3, rfl, k0, k1, k2, k3, _, _⟩ := at_T52 (Kd.C_below HR.out H.out.below) (a : Int) (Int.natCast_nonneg a) h2
   rw [Int.toNat_natCast] at k0 k1 k2 k3
   have e1 := Aside0.mk (inc_k a N hlt HN.out)
   have HLT := Aside0.mk hlt
   clear ha hlt
   obtain ⟨x, hx⟩ : ∃ x, rd_T52 l (a : Int) = x := ⟨_, rfl⟩
   rw [hx] at k0 k1 k2 k3
   have HX := Aside0.mk (show l.getD a z52 = x from hx)
   clear hx
   go_wp2_with fail
   refine (node_Seek1.st x A3 x.f1.length c3 (H.out.alloc _)).mono ?_
   rintro e w' ⟨rfl, hs⟩
   have H2 := Aside0.mk hs
   clear hs H k0 k1 k2 k3 h1 h2
   obtain ⟨b, hb⟩ : ∃ b, lessK x.f0 k = b := ⟨_, rfl⟩
   have HB := Aside0.mk hb
   rw [hb]
   clear hb
   cases b with
   | true =>
    go_wp2_with fail
    refine ⟨⟨a + 1, by rw [e1.out], HLT.out, H2, ⟨?_⟩⟩, by rw [e1.out]; exact meas_k a N HLT.out⟩
    intro j hj
    rcases Nat.lt_succ_iff_lt_or_eq.1 hj with h | h
    ·exact HP.out j h
    ·rw [h, HX.out]; exact HB.out
   | false =>
    go_wp2
    go_ret
    rw [firstN_is (fun x : S52 => lessK x.f0 k) z52 l a HP.out (by rw [HL.out]; exact Nat.le_of_lt HLT.out) (Or.inr (by rw [HX.out]; exact HB.out))]
    exact ⟨rfl, H2.out⟩
  ·have h2 : ¬ (a : Int) < (N : Int) := fun h => hlt (Int.ofNat_lt.1 h)
   have h1 : decide ((a : Int) < (N : Int)) = false := decide_eq_false h2
   obtain rfl : a = N := Nat.le_antisymm ha (Nat.le_of_not_lt hlt)
   clear hlt ha
   go_wp2
   go_ret
   rw [firstN_is (fun x : S52 => lessK x.f0 k) z52 l a HP.out (by rw [HL.out]; exact Nat.le_refl _) (Or.inl (by rw [HL.out]))]
   exact ⟨rfl, H.out⟩
set_option maxHeartbeats 1000000 in
theorem node_Seek2.st (x : S57) (h : St w0 w (blk g (keyC k) 35 :: ps)) :
  Calls Try.prog 42 #[.agg #[.int .i64 x.f0.f0, .int .i64 x.f0.f1, .int .i64 x.f0.f2, .int .i64 x.f1], .pointer (some ⟨g, 0, none⟩)] w fun e w' => e = .returned (.bool (!lessK k x.f0)) ∧ St w0 w' (blk g (keyC k) 35 :: ps) := by
 have H := Aside0.mk h
 have H1 := Aside0.mk (h.alloc (.cells #[.int .i64 x.f0.f0, .int .i64 x.f0.f1, .int .i64 x.f0.f2, .int .i64 x.f1] 57))
 obtain ⟨k0, k1, k2⟩ := keyC_cells H1.out
 clear h
 go_enter Try.func42, Try.ntmps42
 go_wp2_with fail
 refine (key_Less.calls 4 _ _ _ _ _ _ _ _ (LessK k x.f0)).mono ?_
 rintro e w' ⟨rfl, hb⟩
 go_wp2
 go_ret
 exact ⟨rfl, H1.out.below_ hb⟩
set_option maxHeartbeats 2000000 in
theorem seek_Kid.st (A : Option Addr) (N c : Nat) (l : List S57) (hr : Kd.C k57 w0 A N l) (hN : N ≤ 140737488355327) (h : St w0 w (blk g (keyC k) 35 :: ps)) :
  Calls Try.prog 41 #[.slice A N c, .func (.func 42) #[] #[.pointer (some ⟨g, 0, none⟩)]] w fun e w' => e = .returned (.int .i64 (firstN (fun x => !lessK k x.f0) l : Nat)) ∧ St w0 w' (blk g (keyC k) 35 :: ps) := by
 have H := Aside0.mk h
 have HR := Aside0.mk hr
 have HL := Aside0.mk hr.1
 have HN := Aside0.mk hN
 clear h hr hN
 go_enter Try.func41, Try.ntmps41
 go_wp2_with fail
 go_loopw [5, 6, 9] (fun _ _ i wr => ∃ a : Nat, i = .int .i64 a ∧ a ≤ N ∧ Aside0 (St w0 wr (blk g (keyC k) 35 :: ps)) ∧ Aside0 (∀ j, j < a → (!lessK k (l.getD j z57).f0) = true)) (fun _ _ i _ => N - (intOf i).toNat)
 case atStart => exact ⟨0, rfl, Nat.zero_le _, H, ⟨fun j hj => absurd hj (Nat.not_lt_zero _)⟩⟩
 case round =>
  clear H
  obtain ⟨a, rfl, ha, H, HP⟩ := hrel
  by_cases hlt : a < N
  ·have h2 : (a : Int) < (N : Int) := Int.ofNat_lt.2 hlt
   have h1 : decide ((a : Int) < (N : Int)) = true := decide_eq_true h2
   obtain ⟨ad, rfl, k0, k1, k2, k3⟩ := at_T57 (Kd.C_below HR.out H.out.below) (a : Int) (Int.natCast_nonneg a) h2
   rw [Int.toNat_natCast] at k0 k1 k2 k3
   have e1 := Aside0.mk (inc_k a N hlt HN.out)
   have HLT := Aside0.mk hlt
   clear ha hlt
   obtain ⟨x, hx⟩ : ∃ x, rd_T57 l (a : Int) = x := ⟨_, rfl⟩
   rw [hx] at k0 k1 k2 k3
   have HX := Aside0.mk (show l.getD a z57 = x from hx)
   clear hx
   go_wp2_with fail
   refine (node_Seek2.st x (H.out.alloc _)).mono ?_
   rintro e w' ⟨rfl, hs⟩
   have H2 := Aside0.mk hs
   clear hs H k0 k1 k2 k3 h1 h2
   obtain ⟨b, hb⟩ : ∃ b, (!lessK k x.f0) = b := ⟨_, rfl⟩
   have HB := Aside0.mk hb
   rw [hb]
   clear hb
   cases b with
   | true =>
    go_wp2_with fail
    refine ⟨⟨a + 1, by rw [e1.out], HLT.out, H2, ⟨?_⟩⟩, by rw [e1.out]; exact meas_k a N HLT.out⟩
    intro j hj
    rcases Nat.lt_succ_iff_lt_or_eq.1 hj with h | h
    ·exact HP.out j h
    ·rw [h, HX.out]; exact HB.out
   | false =>
    go_wp2
    go_ret
    rw [firstN_is (fun x : S57 => !lessK k x.f0) z57 l a HP.out (by rw [HL.out]; exact Nat.le_of_lt HLT.out) (Or.inr (by rw [HX.out]; exact HB.out))]
    exact ⟨rfl, H2.out⟩
  ·have h2 : ¬ (a : Int) < (N : Int) := fun h => hlt (Int.ofNat_lt.1 h)
   have h1 : decide ((a : Int) < (N : Int)) = false := decide_eq_false h2
   obtain rfl : a = N := Nat.le_antisymm ha (Nat.le_of_not_lt hlt)
   clear hlt ha
   go_wp2
   go_ret
   rw [firstN_is (fun x : S57 => !lessK k x.f0) z57 l a HP.out (by rw [HL.out]; exact Nat.le_refl _) (Or.inl (by rw [HL.out]))]
   exact ⟨rfl, H.out⟩
theorem max_k0 (i : Nat) (h0 : wrap64 ((i : Int) - 1) ≤ 0) (h : i ≤ 1000) : (0 : Int) = ((i - 1 : Nat) : Int) := by unfold wrap64 at h0; omega
theorem max_k1 (i : Nat) (h0 : 0 < wrap64 ((i : Int) - 1)) (h : i ≤ 1000) : wrap64 ((i : Int) - 1) = ((i - 1 : Nat) : Int) := by unfold wrap64 at h0 ⊢; omega
theorem max_k (i : Nat) (h : i ≤ 1000) : max 0 (wrap64 ((i : Int) - 1)) = ((i - 1 : Nat) : Int) := by unfold wrap64; omega
def eqK (a b : S35) : Bool := a.f0 == b.f0 && (a.f1 == b.f1 && a.f2 == b.f2)
def node_Seek.f (a0_0 : Int) (l0_1 : List S52) (l0_2 : List S57) (a1_0 a1_1 a1_2 : Int) : Option (Int × Bool) :=
 if l0_1.length ≤ 1000 ∧ l0_2.length ≤ 1000 then
  if a0_0 = 0 then some (((firstN (fun x : S52 => lessK x.f0 ⟨a1_0, a1_1, a1_2⟩) l0_1 : Nat) : Int), decide (firstN (fun x : S52 => lessK x.f0 ⟨a1_0, a1_1, a1_2⟩) l0_1 < l0_1.length) && eqK (l0_1.getD (firstN (fun x : S52 => lessK x.f0 ⟨a1_0, a1_1, a1_2⟩) l0_1) z52).f0 ⟨a1_0, a1_1, a1_2⟩)
  else some (((firstN (fun x : S57 => !lessK ⟨a1_0, a1_1, a1_2⟩ x.f0) l0_2 - 1 : Nat) : Int), decide (firstN (fun x : S57 => !lessK ⟨a1_0, a1_1, a1_2⟩ x.f0) l0_2 - 1 < l0_2.length) && eqK (l0_2.getD (firstN (fun x : S57 => !lessK ⟨a1_0, a1_1, a1_2⟩ x.f0) l0_2 - 1) z57).f0 ⟨a1_0, a1_1, a1_2⟩)
 else none
def nodeC (a0_0 : Int) (A0_1 : Option Addr) (N c0_1 : Nat) (A0_2 : Option Addr) (M c0_2 : Nat) : Array Value := #[.int .i64 a0_0, .slice A0_1 N c0_1, .slice A0_2 M c0_2]
set_option maxHeartbeats 4000000 in
set_option maxRecDepth 100000 in
theorem node_Seek.calls (a0_0 : Int) (A0_1 : Option Addr) (c0_1 : Nat) (l0_1 : List (S52)) (A0_2 : Option Addr) (c0_2 : Nat) (l0_2 : List (S57)) (a1_0 : Int) (a1_1 : Int) (a1_2 : Int) (r1 : Int) (r2 : Bool) (w : World) (hr0_1 : Kd.C k52 w A0_1 l0_1.length l0_1) (hc0_1 : l0_1.length ≤ c0_1) (hr0_2 : Kd.C k57 w A0_2 l0_2.length l0_2) (hc0_2 : l0_2.length ≤ c0_2) (h : node_Seek.f a0_0 l0_1 l0_2 a1_0 a1_1 a1_2 = some (r1, r2)) :
  Calls Try.prog 15 #[.agg #[.int .i64 a0_0, .slice A0_1 l0_1.length c0_1, .slice A0_2 l0_2.length c0_2], .agg #[.int .i64 a1_0, .int .i64 a1_1, .int .i64 a1_2]] w fun e w' => e = .returned (.tuple #[.int .i64 r1, .bool r2]) ∧ Below w.heap.size w w' := by
 have HR1 := Aside0.mk hr0_1
 have HR2 := Aside0.mk hr0_2
 clear hr0_1 hr0_2 hc0_1 hc0_2
 rw [node_Seek.f] at h
 have hle : l0_1.length ≤ 1000 ∧ l0_2.length ≤ 1000 := by
  by_cases hq : l0_1.length ≤ 1000 ∧ l0_2.length ≤ 1000
  ·exact hq
  ·rw [if_neg hq] at h; cases h
 rw [if_pos hle] at h
 obtain ⟨N, hN⟩ : ∃ N, l0_1.length = N := ⟨_, rfl⟩
 obtain ⟨M, hM⟩ : ∃ M, l0_2.length = M := ⟨_, rfl⟩
 rw [hN, hM] at hle h
 rw [hN] at HR1
 rw [hM] at HR2
 have HLE := Aside0.mk hle
 clear hle
 have hmf : ∀ (fn : Fn) (first cap : Array Value) (w : World), (Instr.makeFunc fn first cap).run Try.prog w = .ok (.func fn first cap) w := fun _ _ _ _ => rfl
 have HB := Aside0.mk (((St.start w).alloc_ (nodeC a0_0 A0_1 N c0_1 A0_2 M c0_2) 25).alloc_ (keyC ⟨a1_0, a1_1, a1_2⟩) 35)
 have hsz : (w.alloc (.cells (nodeC a0_0 A0_1 N c0_1 A0_2 M c0_2) 25)).heap.size = w.heap.size + 1 := by simp
 rw [hsz] at HB
 clear hsz
 by_cases h0 : a0_0 = 0
 ·subst h0
  rw [if_pos rfl] at h
  have hi := firstN_le (fun x : S52 => lessK x.f0 ⟨a1_0, a1_1, a1_2⟩) l0_1
  rw [hN] at hi
  obtain ⟨i, hie⟩ : ∃ i, firstN (fun x : S52 => lessK x.f0 ⟨a1_0, a1_1, a1_2⟩) l0_1 = i := ⟨_, rfl⟩
  rw [hie] at h hi
  have HI := Aside0.mk hie
  have HII := Aside0.mk hi
  have H := Aside0.mk h
  rw [hN, hM]
  clear h hN hM hie hi
  go_enter Try.func15, Try.ntmps15
  go_wp2_with fail
  refine (seek_Item.st (k := ⟨a1_0, a1_1, a1_2⟩) A0_1 N c0_1 l0_1 HR1.out (by have := HLE.out; omega) HB.out).mono ?_
  rintro e w1 ⟨rfl, hs⟩
  rw [HI.out]
  obtain ⟨k0, k1, k2⟩ := keyC_cells hs
  have hbn := hs.drop.blk_is
  have n1 : w1.cell? ⟨w.heap.size, 1, none⟩ = some (.slice A0_1 N c0_1) := blk_cell hbn 1
  have n2 : w1.cell? ⟨w.heap.size, 2, none⟩ = some (.slice A0_2 M c0_2) := blk_cell hbn 2
  have HS := Aside0.mk hs
  have HC := Aside0.mk (Kd.C_below HR1.out hs.below)
  clear hs hbn
  by_cases hlt : i < N
  ·have h2 : (i : Int) < (N : Int) := Int.ofNat_lt.2 hlt
   have h1 : decide ((i : Int) < (N : Int)) = true := decide_eq_true h2
   obtain ⟨ad, A3, c3, rfl, q0, q1, q2, q3, _, _⟩ := at_T52 HC.out (i : Int) (Int.natCast_nonneg i) h2
   obtain ⟨x, hx⟩ : ∃ x, rd_T52 l0_1 (i : Int) = x := ⟨_, rfl⟩
   have HX := Aside0.mk (show l0_1.getD i z52 = x from hx)
   have HLT := Aside0.mk hlt
   rw [hx] at q0 q1 q2 q3
   rw [Int.toNat_natCast] at q0 q1 q2 q3
   clear hx hlt
   go_wp2_with fail
   go_quiet (fail)
   go_wp2
   go_ret2
   have h := H.out
   rw [HX.out, decide_eq_true HLT.out, Bool.true_and] at h
   injection h with h
   injection h with hh1 hh2
   subst hh1 hh2
   exact ⟨rfl, (HS.out.drewN _).below⟩
  ·have h2 : ¬ (i : Int) < (N : Int) := fun h => hlt (Int.ofNat_lt.1 h)
   have h1 : decide ((i : Int) < (N : Int)) = false := decide_eq_false h2
   have HLT := Aside0.mk hlt
   have h3 : decide (i < N) = false := decide_eq_false hlt
   have h4 : N ≤ i := Nat.le_of_not_lt hlt
   go_wp2_with fail
   go_quiet (fail)
   go_wp2
   go_ret2
   have h := H.out
   rw [decide_eq_false HLT.out, Bool.false_and] at h
   injection h with h
   injection h with hh1 hh2
   subst hh1 hh2
   exact ⟨rfl, (HS.out.drewN _).below⟩
 ·rw [if_neg h0] at h
  have h9 : decide (a0_0 = 0) = false := decide_eq_false h0
  have h8 : (a0_0 == 0) = false := by rw [beq_eq_false_iff_ne]; exact h0
  have hi := firstN_le (fun x : S57 => !lessK ⟨a1_0, a1_1, a1_2⟩ x.f0) l0_2
  rw [hM] at hi
  obtain ⟨i, hie⟩ : ∃ i, firstN (fun x : S57 => !lessK ⟨a1_0, a1_1, a1_2⟩ x.f0) l0_2 = i := ⟨_, rfl⟩
  rw [hie] at h hi
  have HI := Aside0.mk hie
  have HII := Aside0.mk hi
  have H := Aside0.mk h
  rw [hN, hM]
  clear h hN hM hie hi
  go_enter Try.func15, Try.ntmps15
  go_wp2_with fail
  refine (seek_Kid.st (k := ⟨a1_0, a1_1, a1_2⟩) A0_2 M c0_2 l0_2 HR2.out (by have := HLE.out; omega) HB.out).mono ?_
  rintro e w1 ⟨rfl, hs⟩
  rw [HI.out]
  obtain ⟨k0, k1, k2⟩ := keyC_cells hs
  have hbn := hs.drop.blk_is
  have n1 : w1.cell? ⟨w.heap.size, 1, none⟩ = some (.slice A0_1 N c0_1) := blk_cell hbn 1
  have n2 : w1.cell? ⟨w.heap.size, 2, none⟩ = some (.slice A0_2 M c0_2) := blk_cell hbn 2
  have HS := Aside0.mk hs
  have HC := Aside0.mk (Kd.C_below HR2.out hs.below)
  clear hs hbn
  obtain ⟨j, hj⟩ : ∃ j, i - 1 = j := ⟨_, rfl⟩
  have HJ := Aside0.mk hj
  clear hj
  go_upto_region 5 with fail
  go_cut [7] (fun u wx => u = .int .i64 (j : Int) ∧ w1 = wx)
  case first =>
   go_wp2_with fail
   ·go_meet
    exact ⟨by rw [max_k1 i h (Nat.le_trans HII.out HLE.out.2), HJ.out], rfl⟩
   ·go_meet
    exact ⟨by rw [max_k0 i h (Nat.le_trans HII.out HLE.out.2), HJ.out], rfl⟩
  case rest =>
  obtain ⟨rfl, rfl⟩ := hcut
  by_cases hlt : j < M
  ·have h2 : (j : Int) < (M : Int) := Int.ofNat_lt.2 hlt
   have h1 : decide ((j : Int) < (M : Int)) = true := decide_eq_true h2
   obtain ⟨ad, rfl, q0, q1, q2, q3⟩ := at_T57 HC.out (j : Int) (Int.natCast_nonneg j) h2
   obtain ⟨x, hx⟩ : ∃ x, rd_T57 l0_2 (j : Int) = x := ⟨_, rfl⟩
   have HX := Aside0.mk (show l0_2.getD j z57 = x from hx)
   have HLT := Aside0.mk hlt
   rw [hx] at q0 q1 q2 q3
   rw [Int.toNat_natCast] at q0 q1 q2 q3
   clear hx hlt
   go_wp2_with fail
   go_quiet (fail)
   go_wp2
   go_ret2
   have h := H.out
   rw [HJ.out, HX.out, decide_eq_true HLT.out, Bool.true_and] at h
   injection h with h
   injection h with hh1 hh2
   subst hh1 hh2
   exact ⟨rfl, (HS.out.drewN _).below⟩
  ·have h2 : ¬ (j : Int) < (M : Int) := fun h => hlt (Int.ofNat_lt.1 h)
   have h1 : decide ((j : Int) < (M : Int)) = false := decide_eq_false h2
   have HLT := Aside0.mk hlt
   have h3 : decide (j < M) = false := decide_eq_false hlt
   have h4 : M ≤ j := Nat.le_of_not_lt hlt
   go_wp2_with fail
   go_quiet (fail)
   go_wp2
   go_ret2
   have h := H.out
   rw [HJ.out, decide_eq_false HLT.out, Bool.false_and] at h
   injection h with h
   injection h with hh1 hh2
   subst hh1 hh2
   exact ⟨rfl, (HS.out.drewN _).below⟩
end
/-! ### end of GIVEN -/
end Go.Proofs.Ytcjnknpbikfimaa.P
