/- Functions and contracts, written by a program (mkprint.py, a wrapper of ours around the print); texts between GIVEN marks are ours. -/
import Derived.Test.YtcadbpneldjpbaaPx0
namespace Go.Proofs.Ytcadbpneldjpbaa.P
open Go.RowKit Go.Proofs.YtcadbpneldjpbaaW.PrintWords Go.Proofs.YtcadbpneldjpbaaW.PrintLast Go.Proofs.YtcadbpneldjpbaaW.PrintMore
attribute [local go_sem] max2_int min2_int max_two min_two max_three min_three max_four min_four   -- for this text's walks alone
set_option linter.unusedVariables false
set_option linter.unusedSimpArgs false

/-! ### GIVEN seal_may: function 15 -/
def sealMay (a0_0 a0_1 a0_2 a0_3 a0_4 : Int) : Bool := decide (1 ≤ a0_0 ∧ a0_0 ≤ 6 ∧ (0 ≤ a0_3 ∧ a0_3 ≤ 8) ∧ (0 ≤ a0_1 ∧ a0_1 ≤ 2047) ∧ (0 ≤ a0_2 ∧ a0_2 ≤ 65535) ∧ (0 ≤ a0_4 ∧ a0_4 ≤ 1099511627775))
theorem sealMay_no {a0_0 a0_1 a0_2 a0_3 a0_4 : Int} (h : ¬ (1 ≤ a0_0 ∧ a0_0 ≤ 6 ∧ (0 ≤ a0_3 ∧ a0_3 ≤ 8) ∧ (0 ≤ a0_1 ∧ a0_1 ≤ 2047) ∧ (0 ≤ a0_2 ∧ a0_2 ≤ 65535) ∧ (0 ≤ a0_4 ∧ a0_4 ≤ 1099511627775))) : Ending.returned (.bool false) = .returned (.bool (sealMay a0_0 a0_1 a0_2 a0_3 a0_4)) := by unfold sealMay; rw [decide_eq_false h]
theorem sealMay_yes {a0_0 a0_1 a0_2 a0_3 a0_4 : Int} (h : (1 ≤ a0_0 ∧ a0_0 ≤ 6 ∧ (0 ≤ a0_3 ∧ a0_3 ≤ 8) ∧ (0 ≤ a0_1 ∧ a0_1 ≤ 2047) ∧ (0 ≤ a0_2 ∧ a0_2 ≤ 65535) ∧ (0 ≤ a0_4 ∧ a0_4 ≤ 1099511627775))) : Ending.returned (.bool true) = .returned (.bool (sealMay a0_0 a0_1 a0_2 a0_3 a0_4)) := by unfold sealMay; rw [decide_eq_true h]
def seal_may.f (a0_0 a0_1 a0_2 a0_3 a0_4 : Int) : Option Bool := some (sealMay a0_0 a0_1 a0_2 a0_3 a0_4)
def mayRow (a1 a2 a3 a4 : Int) : Array Value := #[.int .i64 a3, .int .i64 8, .int .i64 a1, .int .i64 2047, .int .i64 a2, .int .i64 65535, .int .i64 a4, .int .i64 1099511627775]
def mayTo (k : Nat) (a1 a2 a3 a4 : Int) : Prop := (0 < k → 0 ≤ a3 ∧ a3 ≤ 8) ∧ (1 < k → 0 ≤ a1 ∧ a1 ≤ 2047) ∧ (2 < k → 0 ≤ a2 ∧ a2 ≤ 65535) ∧ (3 < k → 0 ≤ a4 ∧ a4 ≤ 1099511627775)
def mayX (a1 a2 a3 a4 : Int) : Nat → Int
  | 0 => a3
  | 1 => a1
  | 2 => a2
  | _ => a4
def mayT : Nat → Int
  | 0 => 8
  | 1 => 2047
  | 2 => 65535
  | _ => 1099511627775
theorem mayTo_succ (a1 a2 a3 a4 : Int) (k : Nat) (h : k < 4) : mayTo (k + 1) a1 a2 a3 a4 ↔ mayTo k a1 a2 a3 a4 ∧ 0 ≤ mayX a1 a2 a3 a4 k ∧ mayX a1 a2 a3 a4 k ≤ mayT k := by
  have hk4 : k = 0 ∨ k = 1 ∨ k = 2 ∨ k = 3 := by omega
  rcases hk4 with rfl | rfl | rfl | rfl <;> simp only [mayTo, mayX, mayT] <;> omega
theorem mayNo (a0 a1 a2 a3 a4 : Int) (k : Nat) (h : k < 4) (hx : mayX a1 a2 a3 a4 k < 0 ∨ mayT k < mayX a1 a2 a3 a4 k) :
    ¬ (1 ≤ a0 ∧ a0 ≤ 6 ∧ (0 ≤ a3 ∧ a3 ≤ 8) ∧ (0 ≤ a1 ∧ a1 ≤ 2047) ∧ (0 ≤ a2 ∧ a2 ≤ 65535) ∧ (0 ≤ a4 ∧ a4 ≤ 1099511627775)) := by
  have hk4 : k = 0 ∨ k = 1 ∨ k = 2 ∨ k = 3 := by omega
  rcases hk4 with rfl | rfl | rfl | rfl <;> simp only [mayX, mayT] at hx <;> omega
set_option maxHeartbeats 1000000 in
theorem seal_may.calls (a0_0 : Int) (a0_1 : Int) (a0_2 : Int) (a0_3 : Int) (a0_4 : Int) (r : Bool) (w : World) (h : seal_may.f a0_0 a0_1 a0_2 a0_3 a0_4 = some r) :
    Calls Try.prog 15 #[.agg #[.int .i64 a0_0, .int .i64 a0_1, .int .i64 a0_2, .int .i64 a0_3, .int .i64 a0_4]] w fun e w' => e = .returned (.bool r) ∧ Below w.heap.size w w' := by
  obtain rfl := Option.some.inj h
  clear h
  have HB0 := Aside0.mk ((Below.refl w.heap.size w).alloc (Nat.le_refl _) (.cells #[.int .i64 a0_0, .int .i64 a0_1, .int .i64 a0_2, .int .i64 a0_3, .int .i64 a0_4] 23))
  by_cases h0 : a0_0 < 1
  · have d0 : decide (a0_0 < 1) = true := by simpa using h0
    go_enter Try.func15, Try.ntmps15
    go_wp2
    go_ret
    exact ⟨sealMay_no (by omega), HB0.out⟩
  have d0 : decide (a0_0 < 1) = false := by simpa using h0
  by_cases h1 : 6 < a0_0
  · have d1 : decide (6 < a0_0) = true := by simpa using h1
    go_enter Try.func15, Try.ntmps15
    go_wp2
    go_ret
    exact ⟨sealMay_no (by omega), HB0.out⟩
  have d1 : decide (6 < a0_0) = false := by simpa using h1
  go_enter Try.func15, Try.ntmps15
  go_wp2
  go_loopw [27] (fun i wr => ∃ k : Nat, k ≤ 4 ∧ i = .int .i64 k ∧ Aside0 (wr.heap[w.heap.size + 1]? = some (.cells (mayRow a0_1 a0_2 a0_3 a0_4) 34 (0, 0))) ∧ Aside0 (Below w.heap.size w wr) ∧ Aside0 (mayTo k a0_1 a0_2 a0_3 a0_4)) (fun i _ => 4 - (intOf i).toNat)
  case atStart => exact ⟨0, by omega, rfl, ⟨heap_alloc2_new w _ _⟩, ⟨HB0.out.alloc (by simp) _⟩, ⟨by unfold mayTo; omega⟩⟩
  case round =>
    obtain ⟨k, hk, rfl, HH, HB, HM⟩ := hrel
    by_cases hlt : k < 4
    · have hc : wr.cell? ⟨w.heap.size + 1, k * 2, none⟩ = some (.int .i64 (mayX a0_1 a0_2 a0_3 a0_4 k)) ∧ wr.cell? ⟨w.heap.size + 1, k * 2 + 1, none⟩ = some (.int .i64 (mayT k)) := by
        rw [cell_of_row _ _ _ _ _ _ HH.out, cell_of_row _ _ _ _ _ _ HH.out]
        have hk4 : k = 0 ∨ k = 1 ∨ k = 2 ∨ k = 3 := by omega
        rcases hk4 with rfl | rfl | rfl | rfl <;> exact ⟨rfl, rfl⟩
      obtain ⟨hc0, hc1⟩ := hc
      have HT := Aside0.mk (mayTo_succ a0_1 a0_2 a0_3 a0_4 k hlt)
      have HN := Aside0.mk (mayNo a0_0 a0_1 a0_2 a0_3 a0_4 k hlt)
      have hsz := blk_lt HH.out
      generalize mayX a0_1 a0_2 a0_3 a0_4 k = x at *
      generalize mayT k = y at *
      by_cases hx : x < 0
      · have d2 : decide (x < 0) = true := by simpa using hx
        go_wp2
        go_ret
        exact ⟨sealMay_no (HN.out (Or.inl hx)), HB.out.alloc HB.out.size _⟩
      have d2 : decide (x < 0) = false := by simpa using hx
      by_cases hy : y < x
      · have d3 : decide (y < x) = true := by simpa using hy
        go_wp2
        go_ret
        exact ⟨sealMay_no (HN.out (Or.inr hy)), HB.out.alloc HB.out.size _⟩
      have d3 : decide (y < x) = false := by simpa using hy
      go_wp2
      go_roundw
      case rel => exact ⟨k + 1, by omega, by go_num, ⟨(heap_alloc_old wr _ hsz).trans HH.out⟩, ⟨HB.out.alloc HB.out.size _⟩, ⟨HT.out.2 ⟨HM.out, by omega, by omega⟩⟩⟩
      case measure => simp [intOf]; omega
    · obtain rfl : k = 4 := by omega
      go_wp2
      go_ret
      have hm := HM.out
      unfold mayTo at hm
      exact ⟨sealMay_yes (by omega), HB.out⟩
/-! ### end of GIVEN -/
/-! ### GIVEN slices_Grow_byte_byte: function 29 -/
/-- slices.Grow of nil: an empty row with room. -/
theorem slices_Grow.nil (n : Int) (h0 : 0 ≤ n) (hn : n ≤ 140737488355328) (w : World) :
    Calls Try.prog 29 #[.slice none 0 0, .int .i64 n] w fun e w' => ∃ v, e = .returned v ∧ Kd.R (Kd.int .u8) 5 w' w.heap.size (fun _ => True) v [] ∧ Below w.heap.size w w' := by
  by_cases hz : n = 0
  · subst hz
    go_enter Try.func29, Try.ntmps29
    go_wp2
    go_ret
    exact ⟨_, rfl, Kd.R_nil _ _ _ _ _, Below.refl _ _⟩
  · have hpos : 0 < n := by omega
    clear hz
    go_enter Try.func29, Try.ntmps29
    go_wp2_with (first | (refine Kd.R_append_zeros (Kd.int .u8) (w0 := w) w.heap.size rfl (.tmp 20) (.tmp 21) 24 3 5 (.int .u8 0) 1 rfl Try.underlying24 Try.underlying3 info5 rfl (by decide) (by omega) (.slice none 0 0) [] 0 n (fun _ => True) rfl rfl rfl (fun _ _ => trivial) (Kd.R_nil _ _ _ _ _) h0 (Below.refl _ _) (Nat.le_refl _) (by simp; omega) ?_; intro v1 w1 ho hb _ _; have HO := Aside0.mk ho; have HB := Aside0.mk hb; clear ho hb; obtain ⟨A1, c1, he1⟩ := Kd.R_slice HO.out; subst he1; obtain ⟨i0, hi0, _, hs0, _⟩ := info_parts info5; have hcut := cut_to (P := Try.prog) 24 5 .i64 Try.underlying24 hi0 A1 _ c1 0 (by omega) (by omega) (Kd.R_reads' HO.out).2.1))
    go_ret
    exact ⟨_, rfl, Kd.R_take (m := 0) HO.out (Nat.zero_le _), HB.out⟩
/-! ### end of GIVEN -/
/-! ### GIVEN slices_Concat_byte_byte: function 27 -/
/-- A row of rows that is read: its element k. -/
theorem rows_at {α : Type} {d : Kd α} {e : Nat} {w : World} {A : Option Addr} {n : Nat} {ls : List (List α)} (h : Kd.C (Kd.slice e d) w A n ls) (k : Nat) (hk : k < ls.length) :
    ∃ ad A' c', A = some ad ∧ w.cell? (ad.add k) = some (.slice A' ls[k].length c') ∧ ls[k].length ≤ c' ∧ Kd.C d w A' ls[k].length ls[k] := by
  obtain ⟨hl, _, hc⟩ := h
  obtain ⟨ad, he, hg⟩ := hc (by omega)
  obtain ⟨cs, h1, ⟨A', c', rfl, h2, h3⟩, h4⟩ := hg k ls[k] (List.getElem?_eq_getElem hk)
  refine ⟨ad, A', c', he, ?_, h2, h3⟩
  have := h4 0 _ rfl
  simpa [Kd.slice] using this
def lensum (ls : List (List Int)) : Nat := (ls.map List.length).sum
theorem lensum_append (a b : List (List Int)) : lensum (a ++ b) = lensum a + lensum b := by simp [lensum]
theorem lensum_take (ls : List (List Int)) (k : Nat) (h : k < ls.length) : lensum (ls.take (k + 1)) = lensum (ls.take k) + ls[k].length := by
  rw [List.take_succ_eq_append_getElem h, lensum_append]
  rfl
theorem lensum_le (ls : List (List Int)) (k : Nat) : lensum (ls.take k) ≤ lensum ls := by
  have h : lensum ls = lensum (ls.take k) + lensum (ls.drop k) := by rw [← lensum_append, List.take_append_drop]
  omega
theorem flatten_take (ls : List (List Int)) (k : Nat) (h : k < ls.length) : (ls.take (k + 1)).flatten = (ls.take k).flatten ++ ls[k] := by
  rw [List.take_succ_eq_append_getElem h, List.flatten_append, List.flatten_singleton]
theorem flatten_len (ls : List (List Int)) : ls.flatten.length = lensum ls := by simp [lensum, List.length_flatten]
set_option maxHeartbeats 1000000 in
theorem slices_Concat.calls (A : Option Addr) (c : Nat) (ls : List (List Int)) (w : World) (hr : Kd.C (Kd.slice 5 (Kd.int .u8)) w A ls.length ls) (hl : lensum ls ≤ 140737488355328) :
    Calls Try.prog 27 #[.slice A ls.length c] w fun e w' => ∃ v, e = .returned v ∧ Kd.R (Kd.int .u8) 5 w' w.heap.size (fun _ => True) v ls.flatten ∧ Below w.heap.size w w' := by
  have HR := Aside0.mk hr
  have HM := Aside0.mk hr.2.1
  have HL := Aside0.mk hl
  clear hr hl
  go_enter Try.func27, Try.ntmps27
  go_wp2
  go_loop [3, 11] (fun s i => ∃ k : Nat, k ≤ ls.length ∧ i = .int .i64 k ∧ s = .int .i64 (lensum (ls.take k) : Nat)) (fun _ i => ls.length - (intOf i).toNat)
  case atStart => exact ⟨0, by omega, rfl, rfl⟩
  case round =>
    obtain ⟨k, hk, rfl, rfl⟩ := hrel
    have hm := HM.out
    have hs1 : lensum (ls.take k) ≤ 140737488355328 := Nat.le_trans (lensum_le ls k) HL.out
    by_cases hlt : k < ls.length
    · have hs2 : lensum (ls.take k) + ls[k].length ≤ 140737488355328 := by rw [← lensum_take ls k hlt]; exact Nat.le_trans (lensum_le ls (k + 1)) HL.out
      have HS := Aside0.mk (lensum_take ls k hlt)
      obtain ⟨ad, A1, c1, rfl, hcell, hc1, hC⟩ := rows_at HR.out k hlt
      have HC := Aside0.mk hC
      clear hC
      go_wp2
      go_round
      case rel => exact ⟨k + 1, by omega, by go_num, by rw [HS.out]; go_num⟩
      case measure => simp [intOf]; omega
    · obtain rfl : k = ls.length := by omega
      rw [List.take_length] at *
      go_wp2_with (go_at_call 29; refine (slices_Grow.nil _ (by omega) (by omega) _).mono ?_; rintro e w1 ⟨v1, rfl, ho, hb⟩; have HO := Aside0.mk ho; have HB := Aside0.mk hb; clear ho hb)
      go_loopw [6, 27] (fun v i wr => ∃ k : Nat, k ≤ ls.length ∧ i = .int .i64 k ∧ Aside0 (Kd.R (Kd.int .u8) 5 wr w.heap.size (fun _ => True) v (ls.take k).flatten) ∧ Aside0 (Below w.heap.size w wr)) (fun _ i _ => ls.length - (intOf i).toNat)
      case atStart => exact ⟨0, by omega, rfl, HO, HB⟩
      case round =>
        clear HO HB
        obtain ⟨k, hk, rfl, HO, HB⟩ := hrel
        by_cases hlt : k < ls.length
        · obtain ⟨ad, A1, c1, rfl, hcell, hc1, hC⟩ := rows_at (Kd.C_below HR.out HB.out) k hlt
          have HC := Aside0.mk hC
          have HF := Aside0.mk (flatten_take ls k hlt)
          have HS := Aside0.mk (show (ls.take k).flatten.length + ls[k].length ≤ 140737488355328 from by
            rw [flatten_len, ← lensum_take ls k hlt]; exact Nat.le_trans (lensum_le ls (k + 1)) HL.out)
          clear hC
          go_wp2_with (first | ((with_reducible refine gate_builtin (b := .append) (xs := #[.tmp 31, .tmp 32]) rfl ?_); at_builtin; refine Kd.R_append_rows (Kd.int .u8) (w0 := w) w.heap.size rfl (.tmp 31) (.tmp 32) 24 5 (.int .u8 0) 1 rfl Try.underlying24 info5 rfl (by decide) (by omega) _ _ ls[k] _ _ _ (fun _ => True) (fun _ => False) rfl rfl HO.out HC.out (fun _ _ h => h) (fun _ h => h.elim) (fun _ _ => trivial) HB.out HB.out.size (by have := HS.out; omega) ?_; intro v1 w2 ho hb _ _; have HO2 := Aside0.mk ho; have HB2 := Aside0.mk hb; clear ho hb))
          go_roundw
          case rel => exact ⟨k + 1, by omega, by go_num, by rw [HF.out]; exact HO2, HB2⟩
          case measure => simp [intOf]; omega
        · obtain rfl : k = ls.length := by omega
          rw [List.take_length] at HO
          go_wp2
          go_ret
          exact ⟨_, rfl, HO.out, HB.out⟩
/-! ### end of GIVEN -/
/-! ### GIVEN num_join: function 24 -/
theorem rows_two {α : Type} {d : Kd α} {e t : Nat} {W : World} {A0 A1 : Option Addr} {c0 c1 : Nat} {l0 l1 : List α} (h0 : Kd.C d W A0 l0.length l0) (hc0 : l0.length ≤ c0) (h1 : Kd.C d W A1 l1.length l1) (hc1 : l1.length ≤ c1) :
    Kd.C (Kd.slice e d) (W.alloc (.cells #[.slice A0 l0.length c0, .slice A1 l1.length c1] t)) (some ⟨W.heap.size, 0, none⟩) 2 [l0, l1] := by
  refine ⟨rfl, by omega, fun _ => ⟨_, rfl, fun j p hj => ?_⟩⟩
  have cell : ∀ i, (W.alloc (.cells #[Value.slice A0 l0.length c0, .slice A1 l1.length c1] t)).cell? ((⟨W.heap.size, 0, none⟩ : Addr).add i) = (#[Value.slice A0 l0.length c0, .slice A1 l1.length c1] : Array Value)[i]? := fun i => by
    rw [add_plain, cell_of_row _ _ _ _ _ _ (heap_alloc_new W _)]
  rcases j with _ | _ | j
  · obtain rfl : l0 = p := by simpa using hj
    refine ⟨[.slice A0 l0.length c0], rfl, ⟨A0, c0, rfl, hc0, Kd.C_alloc h0 _⟩, fun i u hu => ?_⟩
    rcases i with _ | i
    · rw [cell]; exact hu
    · simp at hu
  · obtain rfl : l1 = p := by simpa using hj
    refine ⟨[.slice A1 l1.length c1], rfl, ⟨A1, c1, rfl, hc1, Kd.C_alloc h1 _⟩, fun i u hu => ?_⟩
    rcases i with _ | i
    · rw [cell]; exact hu
    · simp at hu
  · simp at hj
def num_join.f (l0 l1 : List Int) : Option (List Int) := if l0.length + l1.length ≤ 140737488355328 then some (l0 ++ l1) else none
theorem num_join.calls (A0 : Option Addr) (c0 : Nat) (l0 : List Int) (A1 : Option Addr) (c1 : Nat) (l1 : List Int) (r : List Int) (w : World) (hr0 : Kd.C (Kd.int .u8) w A0 l0.length l0) (hc0 : l0.length ≤ c0) (hr1 : Kd.C (Kd.int .u8) w A1 l1.length l1) (hc1 : l1.length ≤ c1) (h : num_join.f l0 l1 = some r) :
    Calls Try.prog 24 #[.slice A0 l0.length c0, .slice A1 l1.length c1] w fun e w' => ∃ v0_ : Value, e = .returned (v0_) ∧ Kd.R (Kd.int .u8) 5 w' w.heap.size (fun _ => True) v0_ r ∧ Below w.heap.size w w' := by
  have hl : l0.length + l1.length ≤ 140737488355328 := by
    unfold num_join.f at h
    split at h
    · assumption
    · cases h
  have hr : r = l0 ++ l1 := by
    unfold num_join.f at h
    rw [if_pos hl] at h
    exact (Option.some.inj h).symm
  have hC := rows_two (e := 5) (t := 24) hr0 hc0 hr1 hc1
  have HX := Aside0.mk (slices_Concat.calls _ 2 _ _ hC (by simp only [lensum, List.map_cons, List.map_nil, List.sum_cons, List.sum_nil]; omega))
  have HB := Aside0.mk ((Below.refl w.heap.size w).alloc (Nat.le_refl _) (.cells #[.slice A0 l0.length c0, .slice A1 l1.length c1] 24))
  subst hr
  clear h hr0 hc0 hr1 hc1 hC hl
  go_enter Try.func24, Try.ntmps24
  go_wp2_with (go_at_call 27; refine HX.out.mono ?_; rintro e w1 ⟨v1, rfl, ho, hb⟩; have HO := Aside0.mk ho; have HB1 := Aside0.mk hb; clear ho hb)
  go_ret
  exact ⟨_, rfl, Kd.R_lower (by simpa using HO.out) HB.out.size, below_step HB.out HB1.out⟩
/-! ### end of GIVEN -/
/-! ### GIVEN num_Put: function 16 -/
/-- Byte i of eight, the greatest first. -/
def eighth (x : Int) (i : Nat) : Int := IntKind.u64.wrap x / 2 ^ (8 * (7 - i)) % 256
def row8 (x : Int) (k : Nat) : Array Value := ((List.range 8).map fun i => if i < k then Value.int .u8 (eighth x i) else .int .u8 0).toArray
theorem row8_get (x : Int) (k : Nat) (h : k < 8) : (row8 x k)[k]? = some (.int .u8 0) := by simp [row8, h]
theorem row8_set (x : Int) (k : Nat) (h : k < 8) : (row8 x k).setIfInBounds k (.int .u8 (eighth x k)) = row8 x (k + 1) := by
  apply Array.ext
  · simp [row8]
  · intro i h1 h2
    simp [row8, List.getElem_set]
    by_cases e : k = i
    · subst e; simp
    · have : i < k + 1 ↔ i < k := by omega
      simp [e, this]
/-- The last n of the eight bytes. -/
def eights (x : Int) (n : Nat) : List Int := (List.range n).map fun i => eighth x (8 - n + i)
theorem eights_length (x : Int) (n : Nat) : (eights x n).length = n := by simp [eights]
theorem row8_reads (W : World) (g : Nat) (x : Int) (n : Nat) (t : TypeId) (h1 : 1 ≤ n) (h8 : n ≤ 8) (hg : W.heap[g]? = some (.cells (row8 x 8) t (0, 0))) : Kd.C (Kd.int .u8) W (some ⟨g, 8 - n, none⟩) (eights x n).length (eights x n) := by
  refine ⟨rfl, by rw [eights_length]; omega, fun _ => ⟨_, rfl, fun j p hj => ⟨[.int .u8 p], rfl, rfl, fun i u hu => ?_⟩⟩⟩
  have hi : i = 0 := by
    rcases i with _ | i
    · rfl
    · simp at hu
  subst hi
  simp at hu
  subst hu
  obtain ⟨hlt, hp⟩ := List.getElem?_eq_some_iff.1 hj
  rw [eights_length] at hlt
  have ha : (⟨g, 8 - n, none⟩ : Addr).add (j * (Kd.int IntKind.u8).sz + 0) = ⟨g, 8 - n + j, none⟩ := by
    show (⟨g, 8 - n, none⟩ : Addr).add (j * 1 + 0) = _
    unfold Addr.add
    split
    · have : j = 0 := by omega
      subst this; simp
    · simp
  rw [ha, cell_of_row _ _ _ _ _ _ hg]
  have : 8 - n + j < 8 := by omega
  simp [row8, this]
  rw [← hp]
  simp [eights]
set_option maxHeartbeats 400000 in
def num_Put.f (l0 : List Int) (x n : Int) : Option (List Int) := num_join.f l0 (if n < 1 ∨ 8 < n then [] else eights x n.toNat)
theorem num_Put.calls (A0 : Option Addr) (c0 : Nat) (l0 : List Int) (x n : Int) (r : List Int) (w : World) (hr0 : Kd.C (Kd.int .u8) w A0 l0.length l0) (hc0 : l0.length ≤ c0) (h : num_Put.f l0 x n = some r) :
    Calls Try.prog 16 #[.slice A0 l0.length c0, .int .i64 x, .int .i64 n] w fun e w' => ∃ v0_ : Value, e = .returned (v0_) ∧ Kd.R (Kd.int .u8) 5 w' w.heap.size (fun _ => True) v0_ r ∧ Below w.heap.size w w' := by
  have HR0 := Aside0.mk hr0
  have HC0 := Aside0.mk hc0
  unfold num_Put.f at h
  by_cases hbad : n < 1 ∨ 8 < n
  · rw [if_pos hbad] at h
    have H := Aside0.mk h
    clear hr0 hc0 h
    rcases hbad with hbad | hbad
    all_goals
      go_enter Try.func16, Try.ntmps16
      go_wp2_with (go_at_call 24; refine (num_join.calls _ _ l0 none 0 [] r _ HR0.out HC0.out (Kd.C_nil _ _) (Nat.le_refl _) H.out).mono ?_; rintro e w1 ⟨v1, rfl, ho, hb⟩; have HO := Aside0.mk ho; have HB1 := Aside0.mk hb; clear ho hb)
      go_ret
      exact ⟨_, rfl, HO.out, HB1.out⟩
  · rw [if_neg hbad] at h
    have H := Aside0.mk h
    clear hr0 hc0 h
    have h1 : 1 ≤ n := by omega
    have h8 : n ≤ 8 := by omega
    clear hbad
    go_enter Try.func16, Try.ntmps16
    go_wp2
    go_loopw [17] (fun i wr => ∃ k : Nat, k ≤ 8 ∧ i = .int .i64 k ∧ wr = w.alloc (.cells (row8 x k) 46)) (fun i _ => 8 - (intOf i).toNat)
    case atStart => exact ⟨0, by omega, rfl, rfl⟩
    case round =>
      obtain ⟨k, hk, rfl, rfl⟩ := hrel
      by_cases hlt : k < 8
      · have hcell := row8_get x k hlt
        go_wp2
        go_roundw
        case rel => exact ⟨k + 1, by omega, by go_num, by rw [← row8_set x k hlt]; rfl⟩
        case measure => simp [intOf]; omega
      · obtain rfl : k = 8 := by omega
        clear hk hlt
        obtain ⟨m, rfl⟩ : ∃ m : Nat, n = m := ⟨n.toNat, by omega⟩
        have hcut0 := fun W => Own.run_array_from (P := Try.prog) 46 5 8 Try.underlying46 (by kernel_rfl) w.heap.size .i64 (8 - (m : Int)) (8 - m) (by omega) (by omega) W
        rw [show 8 - (8 - m) = m from by omega] at hcut0
        have hcut : ∀ W, (Instr.sliceAt 46 (.pointer (some ⟨w.heap.size, 0, none⟩)) (some (.int .i64 (8 - (m : Int)))) none none).run Try.prog W = .ok (.slice (some ⟨w.heap.size, 8 - m, none⟩) (eights x m).length m) W := by rw [eights_length]; exact hcut0
        clear hcut0
        have HX := Aside0.mk (row8_reads (w.alloc (.cells (row8 x 8) 46)) w.heap.size x m 46 (by omega) (by omega) (heap_alloc_new w _))
        have HB := Aside0.mk ((Below.refl w.heap.size w).alloc (Nat.le_refl _) (.cells (row8 x 8) 46))
        go_wp2_with (go_at_call 24; refine (num_join.calls _ _ l0 _ _ (eights x m) r _ (Kd.C_below HR0.out HB.out) HC0.out HX.out (by rw [eights_length]; exact Nat.le_refl _) H.out).mono ?_; rintro e w1 ⟨v1, rfl, ho, hb⟩; have HO := Aside0.mk ho; have HB1 := Aside0.mk hb; clear ho hb)
        go_ret
        exact ⟨_, rfl, Kd.R_lower HO.out HB.out.size, below_step HB.out HB1.out⟩
/-! ### end of GIVEN -/
/-! ### GIVEN sum_nibbles: function 28 -/
def tabRow (k : Nat) : Array Value := ((List.range 16).map fun i => if i < k then Value.int .u32 (Crc.tb i) else .int .u32 0).toArray
theorem tabRow_get (k : Nat) (h : k < 16) : (tabRow k)[k]? = some (.int .u32 0) := by simp [tabRow, h]
theorem tabRow_set (k : Nat) (h : k < 16) : (tabRow k).setIfInBounds k (.int .u32 (Crc.tb k)) = tabRow (k + 1) := by
  apply Array.ext
  · simp [tabRow]
  · intro i h1 h2
    simp [tabRow, List.getElem_set]
    by_cases e : k = i
    · subst e; simp
    · have : i < k + 1 ↔ i < k := by omega
      simp [e, this]
theorem tabRow_lit : tabRow 16 = #[.int .u32 (Crc.tb 0), .int .u32 (Crc.tb 1), .int .u32 (Crc.tb 2), .int .u32 (Crc.tb 3), .int .u32 (Crc.tb 4), .int .u32 (Crc.tb 5), .int .u32 (Crc.tb 6), .int .u32 (Crc.tb 7), .int .u32 (Crc.tb 8), .int .u32 (Crc.tb 9), .int .u32 (Crc.tb 10), .int .u32 (Crc.tb 11), .int .u32 (Crc.tb 12), .int .u32 (Crc.tb 13), .int .u32 (Crc.tb 14), .int .u32 (Crc.tb 15)] := rfl
theorem tabRow_one : ∀ v ∈ (tabRow 16).toList, v.oneCell' = true := by simp [tabRow_lit, Value.oneCell']
set_option maxHeartbeats 400000 in
theorem nib (w : World) : Calls Try.prog 28 #[] w fun e w' => e = .returned (.agg (tabRow 16)) ∧ Below w.heap.size w w' := by
  go_enter Try.func28, Try.ntmps28
  go_wp2
  go_loopw [4] (fun i wr => ∃ k : Nat, k ≤ 16 ∧ i = .int .i64 k ∧ wr = (w.alloc (.cells (tabRow 0) 52)).alloc (.cells (tabRow k) 52)) (fun i _ => 16 - (intOf i).toNat)
  case atStart => exact ⟨0, by omega, rfl, rfl⟩
  case round =>
    obtain ⟨k, hk, rfl, rfl⟩ := hrel
    by_cases hlt : k < 16
    · have hcell := tabRow_get k hlt
      go_wp2
      go_loop [3, 9] (fun r i => ∃ j : Nat, j ≤ 4 ∧ i = .int .i64 j ∧ r = .int .u32 (Crc.stpN j k)) (fun _ i => 4 - (intOf i).toNat)
      case atStart => exact ⟨0, by omega, rfl, by simp [Crc.stpN]⟩
      case round =>
        obtain ⟨j, hj, rfl, rfl⟩ := hrel
        by_cases hj4 : j < 4
        · go_wp2
          · rename_i h
            go_round
            case rel => exact ⟨j + 1, by omega, by go_num, by simp only [Crc.stpN, Crc.stp]; rw [if_pos (by simpa using h)]⟩
            case measure => simp [intOf]; omega
          · rename_i h
            go_round
            case rel => exact ⟨j + 1, by omega, by go_num, by simp only [Crc.stpN, Crc.stp]; rw [if_neg (by simpa using h)]⟩
            case measure => simp [intOf]; omega
        · obtain rfl : j = 4 := by omega
          go_wp2
          go_roundw
          case rel => exact ⟨k + 1, by omega, by go_num, by rw [← tabRow_set k hlt]; rfl⟩
          case measure => simp [intOf]; omega
    · obtain rfl : k = 16 := by omega
      go_wp2_with (first | (refine wpList_load_row rfl 52 _ rfl (w.heap.size + 1) rfl 52 (tabRow 16) (0, 0) _ (heap_alloc2_new w _ _) Try.underlying52 rfl (by kernel_rfl) ?_) | (refine Own.wpList_store_row rfl 52 _ _ rfl w.heap.size rfl (tabRow 16) rfl 52 (tabRow 0) (heap_alloc2_old w _ _) (by kernel_rfl) rfl tabRow_one ?_))
      rw [Own.setRow_alloc_past _ _ _ _ (by simp), Own.setRow_alloc_at _ _ _ _ _ rfl]
      go_wp2
      exact bodyPost_ret (v := .agg (tabRow 16)) (results_cell_row rfl _ _ w.heap.size 52 (tabRow 16) (0, 0) _ rfl (heap_alloc2_old w _ _) Try.underlying52 rfl (by kernel_rfl)) rfl ⟨rfl, ((Below.refl _ _).alloc (Nat.le_refl _) _).alloc (by simp) _⟩
/-! ### end of GIVEN -/
/-! ### GIVEN sum_More: function 25 -/
theorem tab_at (x : Int) (h0 : 0 ≤ x) (h1 : x < 16) : (tabRow 16)[x.toNat]? = some (.int .u32 (Crc.tb x.toNat)) := by
  have : x.toNat < 16 := by omega
  simp [tabRow, this]
def sum_More.f (a0 : Int) (l1 : List Int) : Option Int := some (Crc.moreI a0 l1)
theorem fold_take (l : List Int) (a : Int) (k : Nat) (h : k < l.length) : (l.take (k + 1)).foldl Crc.moreStep a = Crc.moreStep ((l.take k).foldl Crc.moreStep a) (rd l k) := by
  rw [List.take_succ_eq_append_getElem h, List.foldl_append]
  simp [rd, List.getD_eq_getElem?_getD, h]
set_option maxHeartbeats 400000 in
theorem sum_More.calls (a0 : Int) (A1 : Option Addr) (c1 : Nat) (l1 : List Int) (r : Int) (w : World) (hr1 : Kd.C (Kd.int .u8) w A1 l1.length l1) (hc1 : l1.length ≤ c1) (h : sum_More.f a0 l1 = some r) :
    Calls Try.prog 25 #[.int .u32 a0, .slice A1 l1.length c1] w fun e w' => e = .returned (.int .u32 r) ∧ Below w.heap.size w w' := by
  have HR1 := Aside0.mk hr1
  have HC1 := Aside0.mk hc1
  have HL := Aside0.mk hr1.2.1
  clear hr1 hc1
  have H' := Aside0.mk h
  clear h
  go_enter Try.func25, Try.ntmps25
  go_wp2_with (first | (go_at_call 28; refine (nib _).mono ?_; rintro e w1 ⟨rfl, hb⟩) | (refine Own.wpList_store_row rfl 52 _ _ rfl _ rfl (tabRow 16) rfl 52 _ (heap_alloc_new _ _) (by kernel_rfl) rfl tabRow_one ?_; rw [Own.setRow_alloc_at _ _ _ _ _ rfl]))
  have HB := Aside0.mk (hb.alloc hb.size (.cells (tabRow 16) 52))
  have HR2 := Aside0.mk (Kd.C_below HR1.out HB.out)
  clear hb HR1
  go_loop [6, 14] (fun v i => ∃ k : Nat, k ≤ l1.length ∧ i = .int .i64 k ∧ v = .int .u32 ((l1.take k).foldl Crc.moreStep (Go.bits .xor .u32 4294967295 a0))) (fun _ i => l1.length - (intOf i).toNat)
  case atStart => exact ⟨0, by omega, rfl, rfl⟩
  case round =>
    obtain ⟨k, hk, rfl, rfl⟩ := hrel
    have hm := HL.out
    by_cases hlt : k < l1.length
    · have HF := Aside0.mk (fold_take l1 (Go.bits .xor .u32 4294967295 a0) k hlt)
      generalize hx : (l1.take k).foldl Crc.moreStep (Go.bits .xor .u32 4294967295 a0) = x at HF
      clear hx
      obtain ⟨ad, rfl, hcell⟩ := Kd.at_int HR2.out (k : Int) (by omega) (by omega)
      rw [Int.toNat_natCast] at hcell
      have e1 := Crc.and15 (Go.bits .xor .u32 x (rd l1 k % 4294967296))
      have t1 := tab_at _ e1.1 e1.2
      have e2 := Crc.and15 (Go.bits .xor .u32 (Go.bits .xor .u32 x (rd l1 k % 4294967296) / 16) (Crc.tb (Go.bits .and .u32 (Go.bits .xor .u32 x (rd l1 k % 4294967296)) 15).toNat))
      have t2 := tab_at _ e2.1 e2.2
      go_wp2
      go_round
      case rel => exact ⟨k + 1, by omega, by go_num, by rw [HF.out]; rfl⟩
      case measure => simp [intOf]; omega
    · obtain rfl : k = l1.length := by omega
      go_wp2
      go_ret
      have := H'.out

      exact ⟨by simp only [sum_More.f, Crc.moreI] at this; injection this with this; rw [← this]; rfl, HB.out⟩
/-! ### end of GIVEN -/
/-! ### sum_Sum: function 17 -/
def sum_Sum.f (l0 : List Int) : Option (Int) := (sum_More.f 0 l0).bind fun t101 => (some t101)
set_option maxHeartbeats 8000000 in
set_option maxRecDepth 100000 in
theorem sum_Sum.calls (A0 : Option Addr) (c0 : Nat) (l0 : List Int) (r : Int) (w : World) (hr0 : Kd.C (Kd.int .u8) w A0 l0.length l0) (hc0 : l0.length ≤ c0) (h : sum_Sum.f l0 = some r) :
    Calls Try.prog 17 #[.slice A0 l0.length c0] w fun e w' => e = .returned (.int .u32 r) ∧ Below w.heap.size w w' := by
  have HR0 := Aside0.mk hr0
  have HC0 := Aside0.mk hc0
  clear hr0 hc0
  have HB := Aside0.mk (Below.refl w.heap.size w)
  have H : ((sum_More.f 0 l0).bind fun t101 => (some t101)) = some r := h
  clear h
  replace H := Option.bind_eq_some_iff.mp H
  obtain ⟨t101, A20, H⟩ := H
  replace H : (some t101) = some r := H
  have A2 := Aside0.mk A20
  clear A20
  obtain rfl := Option.some.inj H
  go_enter Try.func17, Try.ntmps17
  go_wp2_with (first | ((with_reducible refine gate_callee (f := 25) rfl ?_); refine goesL_ (some 4) rfl rfl Try.func25 (by kernel_rfl) rfl #[.int .u32 0, .slice A0 l0.length c0] rfl (by (try simp only [List.map_toArray, List.map_cons, List.map_nil]); first | done | rfl | (simp only [List.length_drop, List.length_take]; rfl)) ?_; (with_reducible refine (sum_More.calls 0 _ _ l0 t101 _ ?side1 ?side2 A2.out).mono ?_); (case side1 => repeat (first | exact HR0.out | (with_reducible refine Kd.C_alloc ?_ _) | (with_reducible refine Kd.C_drewN ?_ _) | (with_reducible refine Kd.C_drew ?_))); (case side2 => exact HC0.out); rintro e w3 ⟨rfl, hb⟩; refine ⟨_, rfl, ?_⟩; have n0_ := Aside0.mk (below_step (by repeat (first | (with_reducible first | exact HB.out | apply below_alloc | apply pw_below_drewN | apply below_drew1) | exact HB.out)) hb); clear HB; have HB := n0_; clear n0_; (try clear hb); (try clear hb2); (try clear hk); (try clear hi)))
  go_ret
  exact ⟨by first | rfl | (simp [errW_none, errW_some] <;> rfl) | (simp [*, errW_none, errW_some] <;> rfl), by repeat (first | (with_reducible first | exact HB.out | apply below_alloc | apply pw_below_drewN | apply below_drew1) | exact HB.out)⟩

/-! ### GIVEN seal_Seal: function 9 -/
theorem put_some (l : List Int) (x : Int) (n : Nat) (h1 : 1 ≤ n) (h8 : n ≤ 8) (hl : l.length ≤ 1000) : num_Put.f l x n = some (l ++ eights x n) := by
  unfold num_Put.f num_join.f
  have hb : ¬ ((n : Int) < 1 ∨ 8 < (n : Int)) := by omega
  simp only [if_neg hb, Int.toNat_natCast]
  rw [if_pos (by rw [eights_length]; omega)]
/-- The block behind its sum: header, noughts, body, noughts. -/
def sealHead (a0_0 a0_1 a0_2 a0_3 a0_4 : Int) : List Int := eights a0_0 1 ++ eights a0_3 1 ++ eights a0_1 2 ++ eights a0_2 2 ++ eights a0_4 5
def sealRow (a0_0 a0_1 a0_2 a0_3 a0_4 : Int) (l1 : List Int) : List Int := sealHead a0_0 a0_1 a0_2 a0_3 a0_4 ++ (List.replicate 5 0 ++ (l1 ++ List.replicate (236 - l1.length) 0))
def seal_Seal.f (a0_0 a0_1 a0_2 a0_3 a0_4 : Int) (l1 : List Int) : Option (List Int × Int) :=
  if sealMay a0_0 a0_1 a0_2 a0_3 a0_4 = false then some ([], 1) else if (l1.length : Int) > 236 then some ([], 7) else
    (sum_Sum.f (sealRow a0_0 a0_1 a0_2 a0_3 a0_4 l1)).bind fun s => some (eights (wrap64 s) 4 ++ sealRow a0_0 a0_1 a0_2 a0_3 a0_4 l1, 0)
def zeroL : List Value := List.replicate 256 (.int .u8 0)
theorem C_src {w : World} {A : Option Addr} {xs : List Int} (h : Kd.C (Kd.int .u8) w A xs.length xs) (hp : 0 < (nums .u8 xs).length) : ∃ ad, A = some ad ∧ ∀ j v, (nums .u8 xs)[j]? = some v → w.cell? (ad.add j) = some v := by
  obtain ⟨_, _, hc⟩ := h
  obtain ⟨ad, rfl, hg⟩ := hc (by simpa [nums] using hp)
  refine ⟨ad, rfl, fun j v hj => ?_⟩
  simp only [nums, List.getElem?_map, Option.map_eq_some_iff] at hj
  obtain ⟨p, hp2, rfl⟩ := hj
  obtain ⟨cs, h1, h2, h3⟩ := hg j p hp2
  have h4 : cs = [.int .u8 p] := h2
  subst h4
  have := h3 0 _ rfl
  simpa [Kd.int, Kd.scalar] using this
theorem blk_C {w : World} {g t : Nat} {cur : List Value} (hg : w.heap[g]? = some (.cells cur.toArray t (0, 0))) (off : Nat) (xs : List Int) (h : ∀ j p, xs[j]? = some p → cur[off + j]? = some (.int .u8 p)) (hl : xs.length ≤ 9223372036854775807) : Kd.C (Kd.int .u8) w (some ⟨g, off, none⟩) xs.length xs := by
  refine ⟨rfl, hl, fun _ => ⟨_, rfl, fun j p hj => ⟨[.int .u8 p], rfl, rfl, fun i u hu => ?_⟩⟩⟩
  have hi : i = 0 := by
    rcases i with _ | i
    · rfl
    · simp at hu
  subst hi
  simp at hu
  subst hu
  have ha : (⟨g, off, none⟩ : Addr).add (j * (Kd.int IntKind.u8).sz + 0) = ⟨g, off + j, none⟩ := by
    show (⟨g, off, none⟩ : Addr).add (j * 1 + 0) = _
    unfold Addr.add
    split
    · have : j = 0 := by omega
      subst this; simp
    · simp
  rw [ha, cell_of_row _ _ _ _ _ _ hg]
  simpa using h j p hj
theorem nums_one (xs : List Int) : ∀ v ∈ nums .u8 xs, v.oneCell' = true := by
  intro v hv
  simp only [nums, List.mem_map] at hv
  obtain ⟨x, _, rfl⟩ := hv
  rfl
theorem nums_zero (n : Nat) : nums .u8 (List.replicate n 0) = List.replicate n (.int .u8 0) := by unfold nums; rw [List.map_replicate]
theorem zeroL_is : zeroL = List.replicate 256 (.int .u8 0) := rfl
theorem seal_two (E l : List Int) (hE : E.length = 11) (hl : l.length ≤ 236) :
    splice (splice zeroL 4 (nums .u8 E)) 20 (nums .u8 l) = nums .u8 (List.replicate 4 0 ++ (E ++ (List.replicate 5 0 ++ (l ++ List.replicate (236 - l.length) 0)))) := by
  simp only [nums_append, nums_zero, zeroL_is, splice, nums_length, hE]
  generalize hv : Value.int .u8 0 = v
  have e1 : (List.replicate 256 v).take 4 = List.replicate 4 v := by rw [List.take_replicate, Nat.min_eq_left (by omega)]
  have e2 : (List.replicate 256 v).drop (4 + 11) = List.replicate 5 v ++ List.replicate 236 v := by rw [List.drop_replicate, List.replicate_append_replicate]
  rw [e1, e2]
  have e3 : (List.replicate 4 v ++ (nums .u8 E ++ (List.replicate 5 v ++ List.replicate 236 v))) = (List.replicate 4 v ++ (nums .u8 E ++ List.replicate 5 v)) ++ List.replicate 236 v := by simp only [List.append_assoc]
  have h20 : (List.replicate 4 v ++ (nums .u8 E ++ List.replicate 5 v)).length = 20 := by simp only [List.length_append, List.length_replicate, nums_length, hE]
  rw [e3, List.take_append_of_le_length (by omega), List.take_of_length_le (by omega), List.drop_append, List.drop_of_length_le (by omega), h20, List.nil_append, List.drop_replicate, show 236 - (20 + l.length - 20) = 236 - l.length from by omega]
  simp only [List.append_assoc]
theorem nums_at (Z R : List Int) (j : Nat) (p : Int) (h : R[j]? = some p) : (nums .u8 (Z ++ R))[Z.length + j]? = some (.int .u8 p) := by
  rw [nums_append, List.getElem?_append_right (by rw [nums_length]; omega), nums_length, Nat.add_sub_cancel_left]
  simp [nums, h]
theorem sealRow_len (a0_0 a0_1 a0_2 a0_3 a0_4 : Int) (l1 : List Int) (h : l1.length ≤ 236) : (sealRow a0_0 a0_1 a0_2 a0_3 a0_4 l1).length = 252 := by
  unfold sealRow sealHead
  simp only [List.length_append, List.length_replicate, eights_length]
  omega
theorem copied {w : World} {g t : Nat} {a b : List Value} (h : w.heap[g]? = some (.cells a.toArray t (0, 0))) (e : a = b) : w.heap[g]? = some (.cells b.toArray t (0, 0)) := by rw [← e]; exact h
theorem seal_three (E R : List Int) (hE : E.length = 4) : splice (nums .u8 (List.replicate 4 0 ++ R)) 0 (nums .u8 E) = nums .u8 (E ++ R) := by
  simp only [nums_append, splice, nums_length, hE, nums_zero]
  generalize hv : Value.int .u8 0 = v
  rw [List.take_zero, List.nil_append, Nat.zero_add, List.drop_append, List.drop_of_length_le (by rw [List.length_replicate]; omega), List.length_replicate, List.nil_append, Nat.sub_self, List.drop_zero]
set_option maxHeartbeats 2000000 in
theorem seal_Seal.calls (a0_0 : Int) (a0_1 : Int) (a0_2 : Int) (a0_3 : Int) (a0_4 : Int) (A1 : Option Addr) (c1 : Nat) (l1 : List Int) (r1 : List Int) (r2 : Int) (w : World) (hr1 : Kd.C (Kd.int .u8) w A1 l1.length l1) (hc1 : l1.length ≤ c1) (h : seal_Seal.f a0_0 a0_1 a0_2 a0_3 a0_4 l1 = some (r1, r2)) :
    Calls Try.prog 9 #[.agg #[.int .i64 a0_0, .int .i64 a0_1, .int .i64 a0_2, .int .i64 a0_3, .int .i64 a0_4], .slice A1 l1.length c1] w fun e w' => ∃ v0_ : Value, e = .returned (.tuple #[v0_, .int .i64 r2]) ∧ Kd.R (Kd.int .u8) 5 w' w.heap.size (fun _ => True) v0_ r1 ∧ Below w.heap.size w w' := by
  have HR1 := Aside0.mk hr1
  have HC1 := Aside0.mk hc1
  have HM1 := Aside0.mk hr1.2.1
  clear hr1 hc1
  have HB0 := Aside0.mk ((Below.refl w.heap.size w).alloc (Nat.le_refl _) (.cells #[.int .i64 a0_0, .int .i64 a0_1, .int .i64 a0_2, .int .i64 a0_3, .int .i64 a0_4] 23))
  unfold seal_Seal.f at h
  by_cases hm : sealMay a0_0 a0_1 a0_2 a0_3 a0_4 = false
  · rw [if_pos hm] at h
    obtain ⟨rfl, rfl⟩ : [] = r1 ∧ 1 = r2 := by simpa using h
    have HM := Aside0.mk (show seal_may.f a0_0 a0_1 a0_2 a0_3 a0_4 = some false from congrArg some hm)
    clear h hm
    go_enter Try.func9, Try.ntmps9
    go_wp2_with (go_at_call 15; refine (seal_may.calls _ _ _ _ _ false _ HM.out).mono ?_; rintro e w1 ⟨rfl, hb⟩; have HB1 := Aside0.mk (below_step HB0.out hb); clear hb)
    go_ret2
    exact ⟨_, rfl, Kd.R_nil _ _ _ _ _, HB1.out⟩
  rw [if_neg hm] at h
  have HM := Aside0.mk (show seal_may.f a0_0 a0_1 a0_2 a0_3 a0_4 = some true from congrArg some (Bool.not_eq_false _ ▸ hm))
  clear hm
  by_cases hl : (l1.length : Int) > 236
  · rw [if_pos hl] at h
    obtain ⟨rfl, rfl⟩ : [] = r1 ∧ 7 = r2 := by simpa using h
    have hd : decide ((236 : Int) < (l1.length : Int)) = true := decide_eq_true (by omega)
    have hm1 := HM1.out
    clear h hl
    go_enter Try.func9, Try.ntmps9
    go_wp2_with (go_at_call 15; refine (seal_may.calls _ _ _ _ _ true _ HM.out).mono ?_; rintro e w1 ⟨rfl, hb⟩; have HB1 := Aside0.mk (below_step HB0.out hb); clear hb)
    go_ret2
    exact ⟨_, rfl, Kd.R_nil _ _ _ _ _, HB1.out⟩
  rw [if_neg hl] at h
  have hle : l1.length ≤ 236 := by omega
  have HL1 := Aside0.mk hle
  have RL := Aside0.mk (sealRow_len a0_0 a0_1 a0_2 a0_3 a0_4 l1 hle)
  have HT0 := Aside0.mk (fun E (he : E = sealHead a0_0 a0_1 a0_2 a0_3 a0_4) (hz : E.length = 11) => show splice (splice zeroL 4 (nums .u8 E)) 20 (nums .u8 l1) = nums .u8 (List.replicate 4 0 ++ sealRow a0_0 a0_1 a0_2 a0_3 a0_4 l1) from by rw [seal_two E l1 hz hle, he]; rfl)
  clear hle
  generalize sealRow a0_0 a0_1 a0_2 a0_3 a0_4 l1 = Rw at *
  obtain ⟨s, hs, h2⟩ := Option.bind_eq_some_iff.1 h
  obtain ⟨rfl, rfl⟩ : _ = r1 ∧ 0 = r2 := by simpa using h2
  have HS := Aside0.mk hs
  clear h2
  have P6 := Aside0.mk (put_some [] (wrap64 s) 4 (by omega) (by omega) (by simp))
  have Z6 := Aside0.mk (eights_length (wrap64 s) 4)
  rw [List.nil_append] at P6
  generalize eights (wrap64 s) 4 = E6 at *
  have hd : decide ((236 : Int) < (l1.length : Int)) = false := decide_eq_false (by omega)
  have hm1 := HM1.out
  have hmk : ∀ W : World, (Instr.makeSlice 24 (.int .i64 256) (.int .i64 256)).run Try.prog W = .ok (.slice (some ⟨W.heap.size, 0, none⟩) 256 256) (W.alloc (.cells zeroL.toArray 5)) := fun _ => by kernel_rfl
  clear h hl hs
  go_enter Try.func9, Try.ntmps9
  go_wp2_with (go_at_call 15; refine (seal_may.calls _ _ _ _ _ true _ HM.out).mono ?_; rintro e w1 ⟨rfl, hb⟩; have HB1 := Aside0.mk (below_step HB0.out hb); have HE := Aside0.mk hb; clear hb)
  obtain ⟨E1, hE1⟩ : ∃ E, E = eights a0_0 1 := ⟨_, rfl⟩
  obtain ⟨E2, hE2⟩ : ∃ E, E = E1 ++ eights a0_3 1 := ⟨_, rfl⟩
  obtain ⟨E3, hE3⟩ : ∃ E, E = E2 ++ eights a0_1 2 := ⟨_, rfl⟩
  obtain ⟨E4, hE4⟩ : ∃ E, E = E3 ++ eights a0_2 2 := ⟨_, rfl⟩
  obtain ⟨E5, hE5⟩ : ∃ E, E = E4 ++ eights a0_4 5 := ⟨_, rfl⟩
  have z1 : E1.length = 1 := by rw [hE1, eights_length]
  have z2 : E2.length = 2 := by rw [hE2, List.length_append, eights_length]; omega
  have z3 : E3.length = 4 := by rw [hE3, List.length_append, eights_length]; omega
  have z4 : E4.length = 6 := by rw [hE4, List.length_append, eights_length]; omega
  have z5 : E5.length = 11 := by rw [hE5, List.length_append, eights_length]; omega
  have P1 := Aside0.mk (show num_Put.f [] a0_0 1 = some E1 from by rw [hE1]; exact put_some [] a0_0 1 (by omega) (by omega) (by simp))
  have P2 := Aside0.mk (show num_Put.f E1 a0_3 1 = some E2 from by rw [hE2]; exact put_some E1 a0_3 1 (by omega) (by omega) (by omega))
  have P3 := Aside0.mk (show num_Put.f E2 a0_1 2 = some E3 from by rw [hE3]; exact put_some E2 a0_1 2 (by omega) (by omega) (by omega))
  have P4 := Aside0.mk (show num_Put.f E3 a0_2 2 = some E4 from by rw [hE4]; exact put_some E3 a0_2 2 (by omega) (by omega) (by omega))
  have P5 := Aside0.mk (show num_Put.f E4 a0_4 5 = some E5 from by rw [hE5]; exact put_some E4 a0_4 5 (by omega) (by omega) (by omega))
  have HH := Aside0.mk (show E5 = sealHead a0_0 a0_1 a0_2 a0_3 a0_4 from by rw [hE5, hE4, hE3, hE2, hE1]; rfl)
  have Z5 := Aside0.mk z5
  clear hE1 hE2 hE3 hE4 hE5 z1 z2 z3 z4 z5
  have HX := Aside0.mk (show w1.heap[w.heap.size]? = some (.cells #[.int .i64 a0_0, .int .i64 a0_1, .int .i64 a0_2, .int .i64 a0_3, .int .i64 a0_4] 23 (0, 0)) from (HE.out.block _ (by simp)).trans (heap_alloc_new w _))
  have HX2 := Aside0.mk (show (w1.alloc (.cells zeroL.toArray 5)).heap[w.heap.size]? = some (.cells #[.int .i64 a0_0, .int .i64 a0_1, .int .i64 a0_2, .int .i64 a0_3, .int .i64 a0_4] 23 (0, 0)) from (heap_alloc_old w1 _ (blk_lt HX.out)).trans HX.out)
  have HZ := Aside0.mk (heap_alloc_new w1 (.cells zeroL.toArray 5))
  have HB2 := Aside0.mk (HB1.out.alloc HB1.out.size (.cells zeroL.toArray 5))
  have HG := Aside0.mk (HB1.out.size)
  have HN := Aside0.mk (blk_lt HX.out)
  clear HB0 HB1 HE HX
  generalize w1.alloc (.cells zeroL.toArray 5) = W2 at *
  generalize w1.heap.size = gz at *
  clear hmk
  have k0 := blk_cell HX2.out 0
  have k1 := blk_cell HX2.out 1
  have k3 := blk_cell HX2.out 3
  go_region_held3 (fun w' => w'.cell? ⟨w.heap.size, 0, none⟩ = some (.int .i64 a0_0) ∧ w'.cell? ⟨w.heap.size, 3, none⟩ = some (.int .i64 a0_3) ∧ w'.cell? ⟨w.heap.size, 1, none⟩ = some (.int .i64 a0_1)) (first | exact ⟨k0, k3, k1⟩ | go_keep)
    (first
      | (go_at_call_of 16 (Value.slice none 0 0); refine (num_Put.calls none 0 [] a0_0 1 E1 _ (Kd.C_nil _ _) (Nat.le_refl _) P1.out).mono ?_; rintro e w2 ⟨v2, rfl, ho, hb⟩; obtain ⟨A2, m2, he2, hm2, hC2⟩ := Kd.R_reads ho; subst he2; have HX3 := Aside0.mk (blk_below (blk_drew HX2.out) hb); have HZ3 := Aside0.mk (blk_below (blk_drew HZ.out) hb); have HB3 := Aside0.mk (below_step (below_drew HB2.out) hb); have HC2 := Aside0.mk hC2; have HM2 := Aside0.mk hm2; clear k0 k1 k3; have k0 := blk_cell HX3.out 0; have k1 := blk_cell HX3.out 1; have k3 := blk_cell HX3.out 3; clear ho hb hC2 hm2 HX2 HZ HB2)
      | (go_at_call_of 16 (Value.slice A2 E1.length m2); refine (num_Put.calls A2 m2 E1 a0_3 1 E2 _ HC2.out HM2.out P2.out).mono ?_; rintro e w3 ⟨v3, rfl, ho, hb⟩; obtain ⟨A3, m3, he3, hm3, hC3⟩ := Kd.R_reads ho; subst he3; have HX4 := Aside0.mk (blk_below HX3.out hb); have HZ4 := Aside0.mk (blk_below HZ3.out hb); have HB4 := Aside0.mk (below_step HB3.out hb); have HC3 := Aside0.mk hC3; have HM3 := Aside0.mk hm3; clear k0 k1 k3; have k0 := blk_cell HX4.out 0; have k1 := blk_cell HX4.out 1; have k3 := blk_cell HX4.out 3; clear ho hb hC3 hm3 HX3 HZ3 HB3)
      | (go_at_call_of 16 (Value.slice A3 E2.length m3); refine (num_Put.calls A3 m3 E2 a0_1 2 E3 _ HC3.out HM3.out P3.out).mono ?_; rintro e w4 ⟨v4, rfl, ho, hb⟩; obtain ⟨A4, m4, he4, hm4, hC4⟩ := Kd.R_reads ho; subst he4; have HX5 := Aside0.mk (blk_below HX4.out hb); have HZ5 := Aside0.mk (blk_below HZ4.out hb); have HB5 := Aside0.mk (below_step HB4.out hb); have HC4 := Aside0.mk hC4; have HM4 := Aside0.mk hm4; clear k0 k1 k3; have k0 := blk_cell HX5.out 0; have k1 := blk_cell HX5.out 1; have k3 := blk_cell HX5.out 3; clear ho hb hC4 hm4 HX4 HZ4 HB4))
  clear k0 k1 k3
  have k2 := blk_cell HX5.out 2
  have k4 := blk_cell HX5.out 4
  go_wp2
  go_outline
  go_region_held3 (fun w' => w'.cell? ⟨w.heap.size, 2, none⟩ = some (.int .i64 a0_2) ∧ w'.cell? ⟨w.heap.size, 4, none⟩ = some (.int .i64 a0_4)) (first | exact ⟨k2, k4⟩ | go_keep)
    (first
      | (go_at_call_of 16 (Value.slice A4 E3.length m4); refine (num_Put.calls A4 m4 E3 a0_2 2 E4 _ (Kd.C_drew HC4.out) HM4.out P4.out).mono ?_; rintro e w5 ⟨v5, rfl, ho, hb⟩; obtain ⟨A5, m5, he5, hm5, hC5⟩ := Kd.R_reads ho; subst he5; have HX6 := Aside0.mk (blk_below (blk_drew HX5.out) hb); have HZ6 := Aside0.mk (blk_below (blk_drew HZ5.out) hb); have HB6 := Aside0.mk (below_step (below_drew HB5.out) hb); have HC5 := Aside0.mk hC5; have HM5 := Aside0.mk hm5; clear k2 k4; have k2 := blk_cell HX6.out 2; have k4 := blk_cell HX6.out 4; clear ho hb hC5 hm5 HX5 HZ5 HB5)
      | (go_at_call_of 16 (Value.slice A5 E4.length m5); refine (num_Put.calls A5 m5 E4 a0_4 5 E5 _ HC5.out HM5.out P5.out).mono ?_; rintro e w6 ⟨v6, rfl, ho, hb⟩; obtain ⟨A6, m6, he6, hm6, hC6⟩ := Kd.R_reads ho; subst he6; have HX7 := Aside0.mk (blk_below HX6.out hb); have HZ7 := Aside0.mk (blk_below HZ6.out hb); have HB7 := Aside0.mk (below_step HB6.out hb); have HC6 := Aside0.mk hC6; have HM6 := Aside0.mk hm6; clear k2 k4; have k2 := blk_cell HX7.out 2; have k4 := blk_cell HX7.out 4; clear ho hb hC6 hm6 HX6 HZ6 HB6)
      | (refine step_copy_splice rfl (.tmp 27) (.tmp 34) 24 24 rfl 5 Try.underlying24 (by kernel_rfl) _ _ _ _ _ _ rfl rfl gz 4 zeroL 5 HZ7.out (nums .u8 E5) (by rw [nums_length, Z5.out]; rfl) (fun hp => ⟨rfl, C_src HC6.out hp⟩) (by rw [nums_length, Z5.out, zeroL_is, List.length_replicate]; omega) (nums_one _) gz _ (Below.refl _ _) (Nat.le_refl _) ?_; intro w7 hg7 hb7; have HX8 := Aside0.mk ((hb7.block _ HN.out).trans HX7.out); have HG8 := Aside0.mk hg7.out; have HB8 := Aside0.mk (HB7.out.trans (hb7.mono HG.out)); clear k2 k4; have k2 := blk_cell HX8.out 2; have k4 := blk_cell HX8.out 4; clear hg7 hb7 HX7 HZ7 HB7))
  clear k2 k4 HX8
  have HR2 := Aside0.mk (Kd.C_below HR1.out HB8.out)
  have HT := Aside0.mk (HT0.out E5 HH.out Z5.out)
  clear HT0 HH
  go_wp2_with (with_reducible refine wpList_copy_splice rfl (.tmp 37) (.tmp 38) 24 24 rfl 5 Try.underlying24 (by kernel_rfl) _ _ _ _ _ _ rfl rfl gz 20 _ 5 HG8.out (nums .u8 l1) (by rw [nums_length]; exact (Nat.min_eq_left HL1.out).symm) (fun hp => ⟨rfl, C_src HR2.out hp⟩) (by rw [nums_length, length_splice _ _ _ (by rw [nums_length, Z5.out, zeroL_is, List.length_replicate]; omega), zeroL_is, List.length_replicate]; have := HL1.out; omega) (nums_one _) gz _ (Below.refl _ _) (Nat.le_refl _) ?_; intro w8 hg8 hb8; have HG9 := Aside0.mk (copied hg8.out HT.out); have HB9 := Aside0.mk (HB8.out.trans (hb8.mono HG.out)); clear hg8 hb8 HG8 HB8 HR2)
  have HSc := sum_Sum.calls (some ⟨gz, 4, none⟩) 252 Rw s _ (blk_C HG9.out 4 Rw (fun j p h => by simpa using nums_at (List.replicate 4 0) Rw j p h) (by rw [RL.out]; decide)) (by rw [RL.out]; exact Nat.le_refl _) HS.out
  rw [RL.out] at HSc
  refine HSc.mono ?_
  rintro e w9 ⟨rfl, hb⟩
  have HG10 := Aside0.mk (blk_below HG9.out hb)
  have HB10 := Aside0.mk (below_step HB9.out hb)
  clear HSc hb HG9 HB9
  go_wp2_with fail
  refine (num_Put.calls none 0 [] (wrap64 s) 4 E6 _ (Kd.C_nil _ _) (Nat.le_refl _) P6.out).mono ?_
  rintro e w10 ⟨v10, rfl, ho, hb⟩
  obtain ⟨A7, m7, he7, hm7, hC7⟩ := Kd.R_reads ho
  subst he7
  have HG11 := Aside0.mk (blk_below HG10.out hb)
  have HB11 := Aside0.mk (below_step HB10.out hb)
  have HC7 := Aside0.mk hC7
  clear hC7 hb ho hm7 HG10 HB10
  have hf1 : (nums .u8 E6).length = Nat.min E6.length 256 := by rw [nums_length, Z6.out]; rfl
  have hf2 : 0 + (nums .u8 E6).length ≤ (nums .u8 (List.replicate 4 0 ++ Rw)).length := by rw [nums_length, nums_length, List.length_append, List.length_replicate, RL.out, Z6.out]; omega
  have HF1 := Aside0.mk hf1
  have HF2 := Aside0.mk hf2
  clear hf1 hf2
  go_wp2_with (with_reducible refine wpList_copy_splice rfl (.tmp 40) (.tmp 45) 24 24 rfl 5 Try.underlying24 (by kernel_rfl) _ _ _ _ _ _ rfl rfl gz 0 _ 5 HG11.out (nums .u8 E6) HF1.out (fun hp => ⟨rfl, C_src HC7.out hp⟩) HF2.out (nums_one _) gz _ (Below.refl _ _) (Nat.le_refl _) ?_; intro w11 hg11 hb11; have HG12 := Aside0.mk (copied hg11.out (seal_three E6 Rw Z6.out)); have HB12 := Aside0.mk (HB11.out.trans (hb11.mono HG.out)); clear hg11 hb11 HG11 HB11)
  go_ret2
  have hz := RL.out
  have hz6 := Z6.out
  exact ⟨_, rfl, Kd.R_of_own (enc := Value.int .u8) (h1 := fun _ => rfl) ⟨by simp [encs], Or.inr ⟨gz, 256, _, by rw [List.length_append, hz, hz6]; rfl, HG.out, HG12.out, by rw [List.length_append, hz, hz6]; omega, by decide, by simp [nums_length, hz, hz6], by rw [List.toList_toArray, List.take_of_length_le (by rw [nums_length]; omega)]; rfl⟩⟩ (fun _ _ => trivial), HB12.out⟩
/-! ### end of GIVEN -/
/-! ### GIVEN num_Take: function 22 -/
def takeStep (x c : Int) : Int := Go.bits .or .i64 (wrap64 (x * 256)) (wrap64 c)
def num_Take.f (l0 : List Int) (n : Int) : Option (Int × List Int × Int) :=
  if n < 1 ∨ 7 < n then some (0, [], 1) else if (l0.length : Int) < n then some (0, [], 2) else (num_join.f [] (l0.drop n.toNat)).bind fun r => some ((l0.take n.toNat).foldl takeStep 0, r, 0)
theorem foldT (l : List Int) (a : Int) (k : Nat) (h : k < l.length) : (l.take (k + 1)).foldl takeStep a = takeStep ((l.take k).foldl takeStep a) (rd l k) := by
  rw [List.take_succ_eq_append_getElem h, List.foldl_append]
  simp [rd, List.getD_eq_getElem?_getD, h]
set_option maxHeartbeats 1000000 in
theorem num_Take.calls (A0 : Option Addr) (c0 : Nat) (l0 : List Int) (n : Int) (r1 : Int) (r2 : List Int) (r3 : Int) (w : World) (hr0 : Kd.C (Kd.int .u8) w A0 l0.length l0) (hc0 : l0.length ≤ c0) (h : num_Take.f l0 n = some (r1, r2, r3)) :
    Calls Try.prog 22 #[.slice A0 l0.length c0, .int .i64 n] w fun e w' => ∃ v1_ : Value, e = .returned (.tuple #[.int .i64 r1, v1_, .int .i64 r3]) ∧ Kd.R (Kd.int .u8) 5 w' w.heap.size (fun _ => True) v1_ r2 ∧ Below w.heap.size w w' := by
  have HR0 := Aside0.mk hr0
  have HC0 := Aside0.mk hc0
  have HM := Aside0.mk hr0.2.1
  clear hr0 hc0
  unfold num_Take.f at h
  by_cases hbad : n < 1 ∨ 7 < n
  · rw [if_pos hbad] at h
    obtain ⟨rfl, rfl, rfl⟩ : 0 = r1 ∧ [] = r2 ∧ 1 = r3 := by simpa using h
    clear h
    rcases hbad with hbad | hbad
    all_goals
      go_enter Try.func22, Try.ntmps22
      go_wp2
      go_ret3
      exact ⟨_, rfl, Kd.R_nil _ _ _ _ _, Below.refl _ _⟩
  rw [if_neg hbad] at h
  have h1 : 1 ≤ n := by omega
  have h7 : n ≤ 7 := by omega
  clear hbad
  obtain ⟨m, rfl⟩ : ∃ m : Nat, n = m := ⟨n.toNat, by omega⟩
  have hm := HM.out
  by_cases hsh : (l0.length : Int) < m
  · rw [if_pos hsh] at h
    obtain ⟨rfl, rfl, rfl⟩ : 0 = r1 ∧ [] = r2 ∧ 2 = r3 := by simpa using h
    clear h
    have hsh2 : decide (l0.length < m) = true := by simp; omega
    go_enter Try.func22, Try.ntmps22
    go_wp2
    go_ret3
    exact ⟨_, rfl, Kd.R_nil _ _ _ _ _, Below.refl _ _⟩
  · rw [if_neg hsh] at h
    obtain ⟨q, hq, hr⟩ := Option.bind_eq_some_iff.1 h
    obtain ⟨rfl, rfl, rfl⟩ : _ = r1 ∧ q = r2 ∧ 0 = r3 := by simpa using hr
    rw [Int.toNat_natCast] at *
    have HQ := Aside0.mk hq
    clear h hr hq
    have hsh2 : decide (l0.length < m) = false := by simp; omega
    have hle : m ≤ l0.length := by omega
    obtain ⟨i0, hi0, _, hs0, _⟩ := info_parts info5
    have hcut := cut_to (P := Try.prog) 24 5 .i64 Try.underlying24 hi0 A0 l0.length c0 m (by omega) (by omega) HC0.out
    rw [Int.toNat_natCast] at hcut
    obtain ⟨A1, ys, HY, hcut2, HD, HCD⟩ := Own.cut_drop (P := Try.prog) (Kd.int .u8) 24 5 .i64 Try.underlying24 (by kernel_rfl) HR0.out HC0.out m hle
    go_enter Try.func22, Try.ntmps22
    go_wp2
    go_loop [7, 26] (fun v i => ∃ k : Nat, k ≤ m ∧ i = .int .i64 k ∧ v = .int .i64 ((l0.take k).foldl takeStep 0)) (fun _ i => m - (intOf i).toNat)
    case atStart => exact ⟨0, by omega, rfl, rfl⟩
    case round =>
      obtain ⟨k, hk, rfl, rfl⟩ := hrel
      by_cases hlt : k < m
      · have HF := Aside0.mk (foldT l0 0 k (by omega))
        obtain ⟨ad, hAd, hcell⟩ := Kd.at_int HR0.out (k : Int) (by omega) (by omega)
        subst hAd
        rw [Int.toNat_natCast] at hcell
        go_wp2
        go_round
        case rel => exact ⟨k + 1, by omega, by go_num, by rw [HF.out]; rfl⟩
        case measure => simp [intOf]; omega
      · obtain rfl : k = m := by omega
        go_wp2_with (go_at_call 24; refine (num_join.calls none 0 [] _ _ ys q _ (Kd.C_nil _ _) (Nat.le_refl _) HD.out HCD.out (by rw [HY.out]; exact HQ.out)).mono ?_; rintro e w1 ⟨v1, rfl, ho, hb⟩; have HO := Aside0.mk ho; have HB1 := Aside0.mk hb; clear ho hb)
        go_ret3
        exact ⟨_, rfl, HO.out, HB1.out⟩
/-! ### end of GIVEN -/
/-! ### GIVEN seal_Open_1: function 21 -/
theorem grown_set {w w1 : World} (hb : Below w.heap.size w w1) (g : Nat) (v : Value) : w.grownBy (w1.setCell ⟨g, 0, none⟩ v) (some g) :=
  ⟨hb.os, hb.tape, hb.output, by rw [World.size_setCell]; exact hb.size, fun k hk hne => (heap_setCell_other w1 ⟨g, 0, none⟩ k v (fun e => hne (congrArg some e))).trans (hb.block k hk)⟩
set_option maxHeartbeats 1000000 in
/-- The number that 'next' takes off the bytes in block g; the rest stands there behind it. -/
theorem seal_next.calls (g : Nat) (A0 : Option Addr) (c0 : Nat) (l0 : List Int) (n r1 : Int) (r2 : List Int) (r3 : Int) (w : World) (hg : w.heap[g]? = some (.cells #[.slice A0 l0.length c0] 24 (0, 0))) (hr0 : Kd.C (Kd.int .u8) w A0 l0.length l0) (hc0 : l0.length ≤ c0) (h : num_Take.f l0 n = some (r1, r2, r3)) :
    Calls Try.prog 21 #[.int .i64 n, .pointer (some ⟨g, 0, none⟩)] w fun e w' => ∃ (A1 : Option Addr) (c1 : Nat), e = .returned (.int .i64 r1) ∧ w'.heap[g]? = some (.cells #[.slice A1 r2.length c1] 24 (0, 0)) ∧ Kd.R (Kd.int .u8) 5 w' w.heap.size (fun k_ => w.heap.size ≤ k_) (.slice A1 r2.length c1) r2 ∧ w.grownBy w' (some g) := by
  have HG := Aside0.mk hg
  have HR := Aside0.mk hr0
  have HC := Aside0.mk hc0
  have HT := Aside0.mk h
  have hcell := blk_cell hg 0
  rw [show (#[Value.slice A0 l0.length c0] : Array Value)[0]? = some (.slice A0 l0.length c0) from rfl] at hcell
  clear hg hr0 hc0 h
  go_enter Try.func21, Try.ntmps21
  go_wp2_with fail
  refine (num_Take.calls A0 c0 l0 n r1 r2 r3 _ HR.out HC.out HT.out).mono ?_
  rintro e w1 ⟨v1, rfl, ho, hb⟩
  obtain ⟨A1, c1, he1⟩ := Kd.R_slice ho
  subst he1
  have HG1 := Aside0.mk (blk_below HG.out hb)
  have hcell1 := blk_cell HG1.out 0
  rw [show (#[Value.slice A0 l0.length c0] : Array Value)[0]? = some (.slice A0 l0.length c0) from rfl] at hcell1
  have hfro1 := blk_frozen HG1.out 0
  have HO := Aside0.mk ho
  have HB := Aside0.mk hb
  clear ho hb hcell
  go_wp2
  go_ret
  exact ⟨A1, c1, rfl, heap_setCell_same _ _ _ _ _ _ HG1.out, Kd.R_far (p := ⟨g, 0, none⟩) (Kd.R_mono (Kd.R_bound HO.out) (fun k hk => hk.2.1)) (fun k hk => by have := blk_lt HG.out; show k ≠ g; omega) _, grown_set HB.out g _⟩
/-! ### end of GIVEN -/
end Go.Proofs.Ytcadbpneldjpbaa.P
