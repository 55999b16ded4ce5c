/- Functions and contracts, written by a program (mkprint.py, a wrapper of ours around the print); texts between GIVEN marks are ours. -/
import Derived.Test.YtcjnknpbikfimaaPx0
import Derived.Test.YtcjnknpbikfimaaPx8
namespace Go.Proofs.Ytcjnknpbikfimaa.P
open Go.RowKit Go.Proofs.YtcjnknpbikfimaaW.PrintWords Go.Proofs.YtcjnknpbikfimaaW.PrintLast Go.Proofs.YtcjnknpbikfimaaW.PrintMore
attribute [local go_sem] max2_int min2_int max_two min_two max_three min_three max_four min_four   -- for this text's walks alone
set_option linter.unusedVariables false
set_option linter.unusedSimpArgs false

/-! ### GIVEN num_Take: function 45 -/
def takeStep (x c : Int) : Int := Go.bits .or .i64 (wrap64 (x * 256)) (wrap64 c)
def num_Take.f (l0 : List Int) (n : Int) : Option (Int × List Int × Int) :=
 if n < 1 ∨ 7 < n then some (0, [], 1) else if (l0.length : Int) < n then some (0, [], 2) else (num_join.f [] (l0.drop n.toNat)).bind fun r => some ((l0.take n.toNat).foldl takeStep 0, r, 0)
theorem foldT (l : List Int) (a : Int) (k : Nat) (h : k < l.length) : (l.take (k + 1)).foldl takeStep a = takeStep ((l.take k).foldl takeStep a) (rd l k) := by
 rw [List.take_succ_eq_append_getElem h, List.foldl_append]
 simp [rd, List.getD_eq_getElem?_getD, h]
set_option maxRecDepth 100000 in
set_option maxHeartbeats 1000000 in
theorem num_Take.calls (A0 : Option Addr) (c0 : Nat) (l0 : List Int) (n : Int) (r1 : Int) (r2 : List Int) (r3 : Int) (w : World) (hr0 : Kd.C (Kd.int .u8) w A0 l0.length l0) (hc0 : l0.length ≤ c0) (h : num_Take.f l0 n = some (r1, r2, r3)) :
  Calls Try.prog 45 #[.slice A0 l0.length c0, .int .i64 n] w fun e w' => ∃ v1_ : Value, e = .returned (.tuple #[.int .i64 r1, v1_, .int .i64 r3]) ∧ Kd.R (Kd.int .u8) 5 w' w.heap.size (fun _ => True) v1_ r2 ∧ Below w.heap.size w w' := by
 have HR0 := Aside0.mk hr0
 have HC0 := Aside0.mk hc0
 have HM := Aside0.mk hr0.2.1
 clear hr0 hc0
 unfold num_Take.f at h
 by_cases hbad : n < 1 ∨ 7 < n
 ·rw [if_pos hbad] at h
  obtain ⟨rfl, rfl, rfl⟩ : 0 = r1 ∧ [] = r2 ∧ 1 = r3 := by simpa using h
  clear h
  rcases hbad with hbad | hbad
  all_goals
   go_enter Try.func45, Try.ntmps45
   go_wp2
   go_ret3
   exact ⟨_, rfl, Kd.R_nil _ _ _ _ _, Below.refl _ _⟩
 rw [if_neg hbad] at h
 have h1 : 1 ≤ n := by omega
 have h7 : n ≤ 7 := by omega
 clear hbad
 obtain ⟨m, rfl⟩ : ∃ m : Nat, n = m := ⟨n.toNat, by omega⟩
 have hm := HM.out
 by_cases hsh : (l0.length : Int) < m
 ·rw [if_pos hsh] at h
  obtain ⟨rfl, rfl, rfl⟩ : 0 = r1 ∧ [] = r2 ∧ 2 = r3 := by simpa using h
  clear h
  have hsh2 : decide (l0.length < m) = true := by simp; omega
  go_enter Try.func45, Try.ntmps45
  go_wp2
  go_ret3
  exact ⟨_, rfl, Kd.R_nil _ _ _ _ _, Below.refl _ _⟩
 ·rw [if_neg hsh] at h
  obtain ⟨q, hq, hr⟩ := Option.bind_eq_some_iff.1 h
  obtain ⟨rfl, rfl, rfl⟩ : _ = r1 ∧ q = r2 ∧ 0 = r3 := by simpa using hr
  rw [Int.toNat_natCast] at *
  have HQ := Aside0.mk hq
  clear h hr hq
  have hsh2 : decide (l0.length < m) = false := by simp; omega
  have hle : m ≤ l0.length := by omega
  obtain ⟨i0, hi0, _, hs0, _⟩ := info_parts info5
  have hcut := cut_to (P := Try.prog) 29 5 .i64 Try.underlying29 hi0 A0 l0.length c0 m (by omega) (by omega) HC0.out
  rw [Int.toNat_natCast] at hcut
  obtain ⟨A1, ys, HY, hcut2, HD, HCD⟩ := Own.cut_drop (P := Try.prog) (Kd.int .u8) 29 5 .i64 Try.underlying29 q8_ HR0.out HC0.out m hle
  go_enter Try.func45, Try.ntmps45
  go_wp2
  go_loop [7, 26] (fun v i => ∃ k : Nat, k ≤ m ∧ i = .int .i64 k ∧ v = .int .i64 ((l0.take k).foldl takeStep 0)) (fun _ i => m - (intOf i).toNat)
  case atStart => exact ⟨0, by omega, rfl, rfl⟩
  case round =>
   obtain ⟨k, hk, rfl, rfl⟩ := hrel
   by_cases hlt : k < m
   ·have HF := Aside0.mk (foldT l0 0 k (by omega))
    obtain ⟨ad, hAd, hcell⟩ := Kd.at_int HR0.out (k : Int) (by omega) (by omega)
    subst hAd
    rw [Int.toNat_natCast] at hcell
    go_wp2
    go_round
    case rel => exact ⟨k + 1, by omega, by go_num, by rw [HF.out]; rfl⟩
    case measure => simp [intOf]; omega
   ·obtain rfl : k = m := by omega
    go_wp2_with (go_at_call 53; refine (num_join.calls none 0 [] _ _ ys q _ (Kd.C_nil _ _) (Nat.le_refl _) HD.out HCD.out (by rw [HY.out]; exact HQ.out)).mono ?_; rintro e w1 ⟨v1, rfl, ho, hb⟩; have HO := Aside0.mk ho; have HB1 := Aside0.mk hb; clear ho hb)
    go_ret3
    exact ⟨_, rfl, HO.out, HB1.out⟩
/-! ### end of GIVEN -/
/-! ### GIVEN seal_Open_1: function 60 -/
theorem grown_set {w w1 : World} (hb : Below w.heap.size w w1) (g : Nat) (v : Value) : w.grownBy (w1.setCell ⟨g, 0, none⟩ v) (some g) :=
 ⟨hb.os, hb.tape, hb.output, by rw [World.size_setCell]; exact hb.size, fun k hk hne => (heap_setCell_other w1 ⟨g, 0, none⟩ k v (fun e => hne (congrArg some e))).trans (hb.block k hk)⟩
set_option maxHeartbeats 1000000 in
/-- The number that 'next' takes off the bytes in block g; the rest stands there behind it. -/
theorem seal_next.calls (g : Nat) (A0 : Option Addr) (c0 : Nat) (l0 : List Int) (n r1 : Int) (r2 : List Int) (r3 : Int) (w : World) (hg : w.heap[g]? = some (.cells #[.slice A0 l0.length c0] 29 (0, 0))) (hr0 : Kd.C (Kd.int .u8) w A0 l0.length l0) (hc0 : l0.length ≤ c0) (h : num_Take.f l0 n = some (r1, r2, r3)) :
  Calls Try.prog 60 #[.int .i64 n, .pointer (some ⟨g, 0, none⟩)] w fun e w' => ∃ (A1 : Option Addr) (c1 : Nat), e = .returned (.int .i64 r1) ∧ w'.heap[g]? = some (.cells #[.slice A1 r2.length c1] 29 (0, 0)) ∧ Kd.R (Kd.int .u8) 5 w' w.heap.size (fun k_ => w.heap.size ≤ k_) (.slice A1 r2.length c1) r2 ∧ w.grownBy w' (some g) := by
 have HG := Aside0.mk hg
 have HR := Aside0.mk hr0
 have HC := Aside0.mk hc0
 have HT := Aside0.mk h
 have hcell := blk_cell hg 0
 rw [show (#[Value.slice A0 l0.length c0] : Array Value)[0]? = some (.slice A0 l0.length c0) from rfl] at hcell
 clear hg hr0 hc0 h
 go_enter Try.func60, Try.ntmps60
 go_wp2_with fail
 refine (num_Take.calls A0 c0 l0 n r1 r2 r3 _ HR.out HC.out HT.out).mono ?_
 rintro e w1 ⟨v1, rfl, ho, hb⟩
 obtain ⟨A1, c1, he1⟩ := Kd.R_slice ho
 subst he1
 have HG1 := Aside0.mk (blk_below HG.out hb)
 have hcell1 := blk_cell HG1.out 0
 rw [show (#[Value.slice A0 l0.length c0] : Array Value)[0]? = some (.slice A0 l0.length c0) from rfl] at hcell1
 have hfro1 := blk_frozen HG1.out 0
 have HO := Aside0.mk ho
 have HB := Aside0.mk hb
 clear ho hb hcell
 go_wp2
 go_ret
 exact ⟨A1, c1, rfl, heap_setCell_same _ _ _ _ _ _ HG1.out, Kd.R_far (p := ⟨g, 0, none⟩) (Kd.R_mono (Kd.R_bound HO.out) (fun k hk => hk.2.1)) (fun k hk => by have := blk_lt HG.out; show k ≠ g; omega) _, grown_set HB.out g _⟩
/-! ### end of GIVEN -/
end Go.Proofs.Ytcjnknpbikfimaa.P
