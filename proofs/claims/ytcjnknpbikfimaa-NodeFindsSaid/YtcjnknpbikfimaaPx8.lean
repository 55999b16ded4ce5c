/- Functions and contracts, written by a program (mkprint.py, a wrapper of ours around the print); texts between GIVEN marks are ours. -/
import Derived.Test.YtcjnknpbikfimaaPx0
namespace Go.Proofs.Ytcjnknpbikfimaa.P
open Go.RowKit Go.Proofs.YtcjnknpbikfimaaW.PrintWords Go.Proofs.YtcjnknpbikfimaaW.PrintLast Go.Proofs.YtcjnknpbikfimaaW.PrintMore
attribute [local go_sem] max2_int min2_int max_two min_two max_three min_three max_four min_four   -- for this text's walks alone
set_option linter.unusedVariables false
set_option linter.unusedSimpArgs false

/-! ### GIVEN slices_Grow_byte_byte: function 68 -/
/-- slices.Grow of nil: an empty row with room. -/
theorem slices_Grow.nil (n : Int) (h0 : 0 ≤ n) (hn : n ≤ 140737488355328) (w : World) :
  Calls Try.prog 68 #[.slice none 0 0, .int .i64 n] w fun e w' => ∃ v, e = .returned v ∧ Kd.R (Kd.int .u8) 5 w' w.heap.size (fun _ => True) v [] ∧ Below w.heap.size w w' := by
 by_cases hz : n = 0
 ·subst hz
  go_enter Try.func68, Try.ntmps68
  go_wp2
  go_ret
  exact ⟨_, rfl, Kd.R_nil _ _ _ _ _, Below.refl _ _⟩
 ·have hpos : 0 < n := by omega
  clear hz
  go_enter Try.func68, Try.ntmps68
  go_wp2_with (first | (refine Kd.R_append_zeros (Kd.int .u8) (w0 := w) w.heap.size rfl (.tmp 20) (.tmp 21) 29 3 5 (.int .u8 0) 1 rfl Try.underlying29 Try.underlying3 info5 rfl q210_ (by omega) (.slice none 0 0) [] 0 n (fun _ => True) rfl rfl rfl (fun _ _ => trivial) (Kd.R_nil _ _ _ _ _) h0 (Below.refl _ _) (Nat.le_refl _) (by simp; omega) ?_; intro v1 w1 ho hb _ _; have HO := Aside0.mk ho; have HB := Aside0.mk hb; clear ho hb; obtain ⟨A1, c1, he1⟩ := Kd.R_slice HO.out; subst he1; obtain ⟨i0, hi0, _, hs0, _⟩ := info_parts info5; have hcut := cut_to (P := Try.prog) 29 5 .i64 Try.underlying29 hi0 A1 _ c1 0 (by omega) (by omega) (Kd.R_reads' HO.out).2.1))
  go_ret
  exact ⟨_, rfl, Kd.R_take (m := 0) HO.out (Nat.zero_le _), HB.out⟩
/-! ### end of GIVEN -/
/-! ### GIVEN slices_Concat_byte_byte: function 64 -/
/-- A row of rows that is read: its element k. -/
theorem rows_at {α : Type} {d : Kd α} {e : Nat} {w : World} {A : Option Addr} {n : Nat} {ls : List (List α)} (h : Kd.C (Kd.slice e d) w A n ls) (k : Nat) (hk : k < ls.length) :
  ∃ ad A' c', A = some ad ∧ w.cell? (ad.add k) = some (.slice A' ls[k].length c') ∧ ls[k].length ≤ c' ∧ Kd.C d w A' ls[k].length ls[k] := by
 obtain ⟨hl, _, hc⟩ := h
 obtain ⟨ad, he, hg⟩ := hc (by omega)
 obtain ⟨cs, h1, ⟨A', c', rfl, h2, h3⟩, h4⟩ := hg k ls[k] (List.getElem?_eq_getElem hk)
 refine ⟨ad, A', c', he, ?_, h2, h3⟩
 have := h4 0 _ rfl
 simpa [Kd.slice] using this
def lensum (ls : List (List Int)) : Nat := (ls.map List.length).sum
theorem lensum_append (a b : List (List Int)) : lensum (a ++ b) = lensum a + lensum b := by simp [lensum]
theorem lensum_take (ls : List (List Int)) (k : Nat) (h : k < ls.length) : lensum (ls.take (k + 1)) = lensum (ls.take k) + ls[k].length := by
 rw [List.take_succ_eq_append_getElem h, lensum_append]
 rfl
theorem lensum_le (ls : List (List Int)) (k : Nat) : lensum (ls.take k) ≤ lensum ls := by
 have h : lensum ls = lensum (ls.take k) + lensum (ls.drop k) := by rw [← lensum_append, List.take_append_drop]
 omega
theorem flatten_take (ls : List (List Int)) (k : Nat) (h : k < ls.length) : (ls.take (k + 1)).flatten = (ls.take k).flatten ++ ls[k] := by
 rw [List.take_succ_eq_append_getElem h, List.flatten_append, List.flatten_singleton]
theorem flatten_len (ls : List (List Int)) : ls.flatten.length = lensum ls := by simp [lensum, List.length_flatten]
set_option maxHeartbeats 1000000 in
theorem slices_Concat.calls (A : Option Addr) (c : Nat) (ls : List (List Int)) (w : World) (hr : Kd.C (Kd.slice 5 (Kd.int .u8)) w A ls.length ls) (hl : lensum ls ≤ 140737488355328) :
  Calls Try.prog 64 #[.slice A ls.length c] w fun e w' => ∃ v, e = .returned v ∧ Kd.R (Kd.int .u8) 5 w' w.heap.size (fun _ => True) v ls.flatten ∧ Below w.heap.size w w' := by
 have HR := Aside0.mk hr
 have HM := Aside0.mk hr.2.1
 have HL := Aside0.mk hl
 clear hr hl
 go_enter Try.func64, Try.ntmps64
 go_wp2
 go_loop [3, 11] (fun s i => ∃ k : Nat, k ≤ ls.length ∧ i = .int .i64 k ∧ s = .int .i64 (lensum (ls.take k) : Nat)) (fun _ i => ls.length - (intOf i).toNat)
 case atStart => exact ⟨0, by omega, rfl, rfl⟩
 case round =>
  obtain ⟨k, hk, rfl, rfl⟩ := hrel
  have hm := HM.out
  have hs1 : lensum (ls.take k) ≤ 140737488355328 := Nat.le_trans (lensum_le ls k) HL.out
  by_cases hlt : k < ls.length
  ·have hs2 : lensum (ls.take k) + ls[k].length ≤ 140737488355328 := by rw [← lensum_take ls k hlt]; exact Nat.le_trans (lensum_le ls (k + 1)) HL.out
   have HS := Aside0.mk (lensum_take ls k hlt)
   obtain ⟨ad, A1, c1, rfl, hcell, hc1, hC⟩ := rows_at HR.out k hlt
   have HC := Aside0.mk hC
   clear hC
   go_wp2
   go_round
   case rel => exact ⟨k + 1, by omega, by go_num, by rw [HS.out]; go_num⟩
   case measure => simp [intOf]; omega
  ·obtain rfl : k = ls.length := by omega
   rw [List.take_length] at *
   go_wp2_with (go_at_call 68; refine (slices_Grow.nil _ (by omega) (by omega) _).mono ?_; rintro e w1 ⟨v1, rfl, ho, hb⟩; have HO := Aside0.mk ho; have HB := Aside0.mk hb; clear ho hb)
   go_loopw [6, 27] (fun v i wr => ∃ k : Nat, k ≤ ls.length ∧ i = .int .i64 k ∧ Aside0 (Kd.R (Kd.int .u8) 5 wr w.heap.size (fun _ => True) v (ls.take k).flatten) ∧ Aside0 (Below w.heap.size w wr)) (fun _ i _ => ls.length - (intOf i).toNat)
   case atStart => exact ⟨0, by omega, rfl, HO, HB⟩
   case round =>
    clear HO HB
    obtain ⟨k, hk, rfl, HO, HB⟩ := hrel
    by_cases hlt : k < ls.length
    ·obtain ⟨ad, A1, c1, rfl, hcell, hc1, hC⟩ := rows_at (Kd.C_below HR.out HB.out) k hlt
     have HC := Aside0.mk hC
     have HF := Aside0.mk (flatten_take ls k hlt)
     have HS := Aside0.mk (show (ls.take k).flatten.length + ls[k].length ≤ 140737488355328 from by
      rw [flatten_len, ← lensum_take ls k hlt]; exact Nat.le_trans (lensum_le ls (k + 1)) HL.out)
     clear hC
     go_wp2_with (first | ((with_reducible refine gate_builtin (b := .append) (xs := #[.tmp 31, .tmp 32]) rfl ?_); at_builtin; refine Kd.R_append_rows (Kd.int .u8) (w0 := w) w.heap.size rfl (.tmp 31) (.tmp 32) 29 5 (.int .u8 0) 1 rfl Try.underlying29 info5 rfl q210_ (by omega) _ _ ls[k] _ _ _ (fun _ => True) (fun _ => False) rfl rfl HO.out HC.out (fun _ _ h => h) (fun _ h => h.elim) (fun _ _ => trivial) HB.out HB.out.size (by have := HS.out; omega) ?_; intro v1 w2 ho hb _ _; have HO2 := Aside0.mk ho; have HB2 := Aside0.mk hb; clear ho hb))
     go_roundw
     case rel => exact ⟨k + 1, by omega, by go_num, by rw [HF.out]; exact HO2, HB2⟩
     case measure => simp [intOf]; omega
    ·obtain rfl : k = ls.length := by omega
     rw [List.take_length] at HO
     go_wp2
     go_ret
     exact ⟨_, rfl, HO.out, HB.out⟩
/-! ### end of GIVEN -/
/-! ### GIVEN num_join: function 53 -/
theorem rows_two {α : Type} {d : Kd α} {e t : Nat} {W : World} {A0 A1 : Option Addr} {c0 c1 : Nat} {l0 l1 : List α} (h0 : Kd.C d W A0 l0.length l0) (hc0 : l0.length ≤ c0) (h1 : Kd.C d W A1 l1.length l1) (hc1 : l1.length ≤ c1) :
  Kd.C (Kd.slice e d) (W.alloc (.cells #[.slice A0 l0.length c0, .slice A1 l1.length c1] t)) (some ⟨W.heap.size, 0, none⟩) 2 [l0, l1] := by
 refine ⟨rfl, by omega, fun _ => ⟨_, rfl, fun j p hj => ?_⟩⟩
 have cell : ∀ i, (W.alloc (.cells #[Value.slice A0 l0.length c0, .slice A1 l1.length c1] t)).cell? ((⟨W.heap.size, 0, none⟩ : Addr).add i) = (#[Value.slice A0 l0.length c0, .slice A1 l1.length c1] : Array Value)[i]? := fun i => by
  rw [add_plain, cell_of_row _ _ _ _ _ _ (heap_alloc_new W _)]
 rcases j with _ | _ | j
 ·obtain rfl : l0 = p := by simpa using hj
  refine ⟨[.slice A0 l0.length c0], rfl, ⟨A0, c0, rfl, hc0, Kd.C_alloc h0 _⟩, fun i u hu => ?_⟩
  rcases i with _ | i
  ·rw [cell]; exact hu
  ·simp at hu
 ·obtain rfl : l1 = p := by simpa using hj
  refine ⟨[.slice A1 l1.length c1], rfl, ⟨A1, c1, rfl, hc1, Kd.C_alloc h1 _⟩, fun i u hu => ?_⟩
  rcases i with _ | i
  ·rw [cell]; exact hu
  ·simp at hu
 ·simp at hj
def num_join.f (l0 l1 : List Int) : Option (List Int) := if l0.length + l1.length ≤ 140737488355328 then some (l0 ++ l1) else none
theorem num_join.calls (A0 : Option Addr) (c0 : Nat) (l0 : List Int) (A1 : Option Addr) (c1 : Nat) (l1 : List Int) (r : List Int) (w : World) (hr0 : Kd.C (Kd.int .u8) w A0 l0.length l0) (hc0 : l0.length ≤ c0) (hr1 : Kd.C (Kd.int .u8) w A1 l1.length l1) (hc1 : l1.length ≤ c1) (h : num_join.f l0 l1 = some r) :
  Calls Try.prog 53 #[.slice A0 l0.length c0, .slice A1 l1.length c1] w fun e w' => ∃ v0_ : Value, e = .returned (v0_) ∧ Kd.R (Kd.int .u8) 5 w' w.heap.size (fun _ => True) v0_ r ∧ Below w.heap.size w w' := by
 have hl : l0.length + l1.length ≤ 140737488355328 := by
  unfold num_join.f at h
  split at h
  ·assumption
  ·cases h
 have hr : r = l0 ++ l1 := by
  unfold num_join.f at h
  rw [if_pos hl] at h
  exact (Option.some.inj h).symm
 have hC := rows_two (e := 5) (t := 29) hr0 hc0 hr1 hc1
 have HX := Aside0.mk (slices_Concat.calls _ 2 _ _ hC (by simp only [lensum, List.map_cons, List.map_nil, List.sum_cons, List.sum_nil]; omega))
 have HB := Aside0.mk ((Below.refl w.heap.size w).alloc (Nat.le_refl _) (.cells #[.slice A0 l0.length c0, .slice A1 l1.length c1] 29))
 subst hr
 clear h hr0 hc0 hr1 hc1 hC hl
 go_enter Try.func53, Try.ntmps53
 go_wp2_with (go_at_call 64; refine HX.out.mono ?_; rintro e w1 ⟨v1, rfl, ho, hb⟩; have HO := Aside0.mk ho; have HB1 := Aside0.mk hb; clear ho hb)
 go_ret
 exact ⟨_, rfl, Kd.R_lower (by simpa using HO.out) HB.out.size, below_step HB.out HB1.out⟩
/-! ### end of GIVEN -/
/-! ### GIVEN num_Put: function 32 -/
/-- Byte i of eight, the greatest first. -/
def eighth (x : Int) (i : Nat) : Int := IntKind.u64.wrap x / 2 ^ (8 * (7 - i)) % 256
def row8 (x : Int) (k : Nat) : Array Value := ((List.range 8).map fun i => if i < k then Value.int .u8 (eighth x i) else .int .u8 0).toArray
theorem row8_get (x : Int) (k : Nat) (h : k < 8) : (row8 x k)[k]? = some (.int .u8 0) := by simp [row8, h]
theorem row8_set (x : Int) (k : Nat) (h : k < 8) : (row8 x k).setIfInBounds k (.int .u8 (eighth x k)) = row8 x (k + 1) := by
 apply Array.ext
 ·simp [row8]
 ·intro i h1 h2
  simp [row8, List.getElem_set]
  by_cases e : k = i
  ·subst e; simp
  ·have : i < k + 1 ↔ i < k := by omega
   simp [e, this]
/-- The last n of the eight bytes. -/
def eights (x : Int) (n : Nat) : List Int := (List.range n).map fun i => eighth x (8 - n + i)
theorem eights_length (x : Int) (n : Nat) : (eights x n).length = n := by simp [eights]
theorem row8_reads (W : World) (g : Nat) (x : Int) (n : Nat) (t : TypeId) (h1 : 1 ≤ n) (h8 : n ≤ 8) (hg : W.heap[g]? = some (.cells (row8 x 8) t (0, 0))) : Kd.C (Kd.int .u8) W (some ⟨g, 8 - n, none⟩) (eights x n).length (eights x n) := by
 refine ⟨rfl, by rw [eights_length]; omega, fun _ => ⟨_, rfl, fun j p hj => ⟨[.int .u8 p], rfl, rfl, fun i u hu => ?_⟩⟩⟩
 have hi : i = 0 := by
  rcases i with _ | i
  ·rfl
  ·simp at hu
 subst hi
 simp at hu
 subst hu
 obtain ⟨hlt, hp⟩ := List.getElem?_eq_some_iff.1 hj
 rw [eights_length] at hlt
 have ha : (⟨g, 8 - n, none⟩ : Addr).add (j * (Kd.int IntKind.u8).sz + 0) = ⟨g, 8 - n + j, none⟩ := by
  show (⟨g, 8 - n, none⟩ : Addr).add (j * 1 + 0) = _
  unfold Addr.add
  split
  ·have : j = 0 := by omega
   subst this; simp
  ·simp
 rw [ha, cell_of_row _ _ _ _ _ _ hg]
 have : 8 - n + j < 8 := by omega
 simp [row8, this]
 rw [← hp]
 simp [eights]
set_option maxHeartbeats 400000 in
def num_Put.f (l0 : List Int) (x n : Int) : Option (List Int) := num_join.f l0 (if n < 1 ∨ 8 < n then [] else eights x n.toNat)
theorem num_Put.calls (A0 : Option Addr) (c0 : Nat) (l0 : List Int) (x n : Int) (r : List Int) (w : World) (hr0 : Kd.C (Kd.int .u8) w A0 l0.length l0) (hc0 : l0.length ≤ c0) (h : num_Put.f l0 x n = some r) :
  Calls Try.prog 32 #[.slice A0 l0.length c0, .int .i64 x, .int .i64 n] w fun e w' => ∃ v0_ : Value, e = .returned (v0_) ∧ Kd.R (Kd.int .u8) 5 w' w.heap.size (fun _ => True) v0_ r ∧ Below w.heap.size w w' := by
 have HR0 := Aside0.mk hr0
 have HC0 := Aside0.mk hc0
 unfold num_Put.f at h
 by_cases hbad : n < 1 ∨ 8 < n
 ·rw [if_pos hbad] at h
  have H := Aside0.mk h
  clear hr0 hc0 h
  rcases hbad with hbad | hbad
  all_goals
   go_enter Try.func32, Try.ntmps32
   go_wp2_with (go_at_call 53; refine (num_join.calls _ _ l0 none 0 [] r _ HR0.out HC0.out (Kd.C_nil _ _) (Nat.le_refl _) H.out).mono ?_; rintro e w1 ⟨v1, rfl, ho, hb⟩; have HO := Aside0.mk ho; have HB1 := Aside0.mk hb; clear ho hb)
   go_ret
   exact ⟨_, rfl, HO.out, HB1.out⟩
 ·rw [if_neg hbad] at h
  have H := Aside0.mk h
  clear hr0 hc0 h
  have h1 : 1 ≤ n := by omega
  have h8 : n ≤ 8 := by omega
  clear hbad
  go_enter Try.func32, Try.ntmps32
  go_wp2
  go_loopw [17] (fun i wr => ∃ k : Nat, k ≤ 8 ∧ i = .int .i64 k ∧ wr = w.alloc (.cells (row8 x k) 81)) (fun i _ => 8 - (intOf i).toNat)
  case atStart => exact ⟨0, by omega, rfl, rfl⟩
  case round =>
   obtain ⟨k, hk, rfl, rfl⟩ := hrel
   by_cases hlt : k < 8
   ·have hcell := row8_get x k hlt
    go_wp2
    go_roundw
    case rel => exact ⟨k + 1, by omega, by go_num, by rw [← row8_set x k hlt]; rfl⟩
    case measure => simp [intOf]; omega
   ·obtain rfl : k = 8 := by omega
    clear hk hlt
    obtain ⟨m, rfl⟩ : ∃ m : Nat, n = m := ⟨n.toNat, by omega⟩
    have hcut0 := fun W => Own.run_array_from (P := Try.prog) 81 5 8 Try.underlying81 q8_ w.heap.size .i64 (8 - (m : Int)) (8 - m) (by omega) (by omega) W
    rw [show 8 - (8 - m) = m from by omega] at hcut0
    have hcut : ∀ W, (Instr.sliceAt 81 (.pointer (some ⟨w.heap.size, 0, none⟩)) (some (.int .i64 (8 - (m : Int)))) none none).run Try.prog W = .ok (.slice (some ⟨w.heap.size, 8 - m, none⟩) (eights x m).length m) W := by rw [eights_length]; exact hcut0
    clear hcut0
    have HX := Aside0.mk (row8_reads (w.alloc (.cells (row8 x 8) 81)) w.heap.size x m 81 (by omega) (by omega) (heap_alloc_new w _))
    have HB := Aside0.mk ((Below.refl w.heap.size w).alloc (Nat.le_refl _) (.cells (row8 x 8) 81))
    go_wp2_with (go_at_call 53; refine (num_join.calls _ _ l0 _ _ (eights x m) r _ (Kd.C_below HR0.out HB.out) HC0.out HX.out (by rw [eights_length]; exact Nat.le_refl _) H.out).mono ?_; rintro e w1 ⟨v1, rfl, ho, hb⟩; have HO := Aside0.mk ho; have HB1 := Aside0.mk hb; clear ho hb)
    go_ret
    exact ⟨_, rfl, Kd.R_lower HO.out HB.out.size, below_step HB.out HB1.out⟩
/-! ### end of GIVEN -/
end Go.Proofs.Ytcjnknpbikfimaa.P
