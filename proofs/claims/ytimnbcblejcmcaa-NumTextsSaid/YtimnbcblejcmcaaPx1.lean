/- Functions and contracts, written by a program (mkprint.py, a wrapper of ours around the print); texts between GIVEN marks are ours. -/
import Derived.Test.YtimnbcblejcmcaaPx0
namespace Go.Proofs.Ytimnbcblejcmcaa.P
open Go.RowKit Go.Proofs.YtimnbcblejcmcaaW.PrintWords Go.Proofs.YtimnbcblejcmcaaW.PrintLast Go.Proofs.YtimnbcblejcmcaaW.PrintMore
attribute [local go_sem] max2_int min2_int max_two min_two max_three min_three max_four min_four   -- for this text's walks alone
set_option linter.unusedVariables false
set_option linter.unusedSimpArgs false

/-! ### GIVEN bytes_conv: function 46 -/
/-- A string told as new bytes. -/
def Convs (P : Program) (src dst : TypeId) (v : Value) (w : World) (Q : Ending → World → Prop) : Prop := ∃ x w1, (convert src dst v).run P w = .ok x w1 ∧ Q (.returned x) w1
theorem Convs.mono {P : Program} {src dst : TypeId} {v : Value} {w : World} {Q Q' : Ending → World → Prop} (h : Convs P src dst v w Q) (hq : ∀ e w', Q e w' → Q' e w') : Convs P src dst v w Q' := by
  obtain ⟨x, w1, h1, h2⟩ := h
  exact ⟨x, w1, h1, hq _ _ h2⟩
theorem conv_ {P : Program} {ops : Array Oper} {Q : Exit → Act → World → Prop} {oi : Oper} {N : Option Tmp} {a : Act} {w : World} {K : Act → World → Prop} {src dst : TypeId} {x : Operand} (v : Value) (hw : Region.wanted oi (yielded ops a.tmps) = true) (hN : oi.dst = N) (hop : oi.op = .convert src dst x) (hx : a.eval x = v)
    (h : Convs P src dst v w fun e w' => ∃ v, e = .returned v ∧ K (a.put N v) w') : if Region.wanted oi (yielded ops a.tmps) = true then Oper.wp P oi a w K Q else K (a.put N undef) w := by
  obtain ⟨y, w1, h1, y', hy, hk⟩ := h
  cases hy
  refine value_ hw hN (v := y) (w1 := w1) ?_ hk
  unfold execOp
  simp only [hop, hx]
  go_simp
theorem convL_ {P : Program} {ops : Array Oper} {Q : Exit → Act → World → Prop} {rest : List Oper} {oi : Oper} {a : Act} {w : World} (N : Option Tmp) (hd : oi.dst = N) (hg : oi.guard = none) {src dst : TypeId} {x : Operand} (v : Value) (hop : oi.op = .convert src dst x) (hx : a.eval x = v)
    (h : Convs P src dst v w fun e w' => ∃ v, e = .returned v ∧ wpList P ops Q rest (a.put N v) w') : wpList P ops Q (oi :: rest) a w := by
  obtain ⟨y, w1, h1, y', hy, hk⟩ := h
  cases hy
  refine wpList_plain hg fun K hK => ?_
  unfold Oper.wp
  have hr : (execOp a.eval oi).run P w = .ok (.value y) w1 := by
    unfold execOp
    simp only [hop, hx]
    go_simp
  rw [hr]
  subst hd
  exact hK _ _ hk
theorem upon_conv {P : Program} {o : Oper} {a : Act} {w : World} {next : Act → World → Prop} {Q : Exit → Act → World → Prop} {src dst : TypeId} {v : Value}
    (h : Convs P src dst v w fun e w' => match e with
      | .returned y => next (a.put o.dst y) w'
      | _ => False) : o.upon P a next Q (((convert src dst v).run P w).andThen fun a w' => Result.ok (Next.value a) w') := by
  obtain ⟨y, w1, h1, hk⟩ := h
  rw [h1]
  exact hk
theorem gate_conv {P : Program} {ops : Array Oper} {Q : Exit → Act → World → Prop} {o : Oper} {rest : List Oper} {a : Act} {W : World} {src dst : TypeId} {x : Operand} (_ho : o.op = .convert src dst x) (h : wpList P ops Q (o :: rest) a W) : wpList P ops Q (o :: rest) a W := h
def bytes_conv.f (s : ByteArray) : Option (List Int) := if s.size ≤ 9223372036854775807 then some (bytesOf s) else none
theorem bytes_conv.calls (a0 : ByteArray) (r : List Int) (w : World) (h : bytes_conv.f a0 = some r) :
    Convs Try.prog 9 22 (.string a0) w fun e w' => ∃ v0_ : Value, e = .returned (v0_) ∧ Kd.V (Kd.int .u8) 5 w' w.heap.size (fun k_ => (w.heap.size ≤ k_)) v0_ r ∧ Below w.heap.size w w' := by
  unfold bytes_conv.f at h
  by_cases hs : a0.size ≤ 9223372036854775807
  · rw [if_pos hs] at h
    obtain rfl := Option.some.inj h
    refine ⟨_, _, print_bytes (P := Try.prog) 9 22 5 Try.underlying9 Try.underlying22 Try.underlying5 a0 w, _, rfl, ?_, bytes_below (Below.refl w.heap.size w) (Nat.le_refl _) 5 a0⟩
    have hr := bytes_reads w 5 a0 hs
    refine ⟨some ⟨w.heap.size, 0, none⟩, grownCap w a0.size 0 5, by rw [bytesOf_length], by rw [bytesOf_length]; exact grownCap_ge w a0.size 0 5, ?_⟩
    intro W' hW
    refine Kd.C_of_reads (d := (0 : Int)) (h1 := fun _ => rfl) ?_
    rw [bytesOf_length]
    refine ⟨hr.1, hr.2.1, fun hn => ?_⟩
    obtain ⟨ad, he, hc⟩ := hr.2.2 hn
    cases he
    refine ⟨_, rfl, fun j hj => ?_⟩
    rw [← hc j hj, add_plain]
    have hb := hW w.heap.size (Nat.le_refl _) (by rw [Lib.bytesWorld_size]; omega)
    unfold World.cell?
    simp only [hb]
  · rw [if_neg hs] at h
    cases h
/-! ### end of GIVEN -/
/-! ### GIVEN slices_Grow_byte_byte: function 29 -/
/-- slices.Grow of nil: an empty row with room. -/
theorem slices_Grow.nil (n : Int) (h0 : 0 ≤ n) (hn : n ≤ 140737488355328) (w : World) :
    Calls Try.prog 29 #[.slice none 0 0, .int .i64 n] w fun e w' => ∃ v, e = .returned v ∧ Kd.R (Kd.int .u8) 5 w' w.heap.size (fun _ => True) v [] ∧ Below w.heap.size w w' := by
  by_cases hz : n = 0
  · subst hz
    go_enter Try.func29, Try.ntmps29
    go_wp2
    go_ret
    exact ⟨_, rfl, Kd.R_nil _ _ _ _ _, Below.refl _ _⟩
  · have hpos : 0 < n := by omega
    clear hz
    go_enter Try.func29, Try.ntmps29
    go_wp2_with (first | (refine Kd.R_append_zeros (Kd.int .u8) (w0 := w) w.heap.size rfl (.tmp 20) (.tmp 21) 22 3 5 (.int .u8 0) 1 rfl Try.underlying22 Try.underlying3 info5 rfl (by decide) (by omega) (.slice none 0 0) [] 0 n (fun _ => True) rfl rfl rfl (fun _ _ => trivial) (Kd.R_nil _ _ _ _ _) h0 (Below.refl _ _) (Nat.le_refl _) (by simp; omega) ?_; intro v1 w1 ho hb _ _; have HO := Aside0.mk ho; have HB := Aside0.mk hb; clear ho hb; obtain ⟨A1, c1, he1⟩ := Kd.R_slice HO.out; subst he1; obtain ⟨i0, hi0, _, hs0, _⟩ := info_parts info5; have hcut := cut_to (P := Try.prog) 22 5 .i64 Try.underlying22 hi0 A1 _ c1 0 (by omega) (by omega) (Kd.R_reads' HO.out).2.1))
    go_ret
    exact ⟨_, rfl, Kd.R_take (m := 0) HO.out (Nat.zero_le _), HB.out⟩
/-! ### end of GIVEN -/
/-! ### GIVEN slices_Concat_byte_byte: function 28 -/
/-- A row of rows that is read: its element k. -/
theorem rows_at {α : Type} {d : Kd α} {e : Nat} {w : World} {A : Option Addr} {n : Nat} {ls : List (List α)} (h : Kd.C (Kd.slice e d) w A n ls) (k : Nat) (hk : k < ls.length) :
    ∃ ad A' c', A = some ad ∧ w.cell? (ad.add k) = some (.slice A' ls[k].length c') ∧ ls[k].length ≤ c' ∧ Kd.C d w A' ls[k].length ls[k] := by
  obtain ⟨hl, _, hc⟩ := h
  obtain ⟨ad, he, hg⟩ := hc (by omega)
  obtain ⟨cs, h1, ⟨A', c', rfl, h2, h3⟩, h4⟩ := hg k ls[k] (List.getElem?_eq_getElem hk)
  refine ⟨ad, A', c', he, ?_, h2, h3⟩
  have := h4 0 _ rfl
  simpa [Kd.slice] using this
def lensum (ls : List (List Int)) : Nat := (ls.map List.length).sum
theorem lensum_append (a b : List (List Int)) : lensum (a ++ b) = lensum a + lensum b := by simp [lensum]
theorem lensum_take (ls : List (List Int)) (k : Nat) (h : k < ls.length) : lensum (ls.take (k + 1)) = lensum (ls.take k) + ls[k].length := by
  rw [List.take_succ_eq_append_getElem h, lensum_append]
  rfl
theorem lensum_le (ls : List (List Int)) (k : Nat) : lensum (ls.take k) ≤ lensum ls := by
  have h : lensum ls = lensum (ls.take k) + lensum (ls.drop k) := by rw [← lensum_append, List.take_append_drop]
  omega
theorem flatten_take (ls : List (List Int)) (k : Nat) (h : k < ls.length) : (ls.take (k + 1)).flatten = (ls.take k).flatten ++ ls[k] := by
  rw [List.take_succ_eq_append_getElem h, List.flatten_append, List.flatten_singleton]
theorem flatten_len (ls : List (List Int)) : ls.flatten.length = lensum ls := by simp [lensum, List.length_flatten]
set_option maxHeartbeats 1000000 in
theorem slices_Concat.calls (A : Option Addr) (c : Nat) (ls : List (List Int)) (w : World) (hr : Kd.C (Kd.slice 5 (Kd.int .u8)) w A ls.length ls) (hl : lensum ls ≤ 140737488355328) :
    Calls Try.prog 28 #[.slice A ls.length c] w fun e w' => ∃ v, e = .returned v ∧ Kd.R (Kd.int .u8) 5 w' w.heap.size (fun _ => True) v ls.flatten ∧ Below w.heap.size w w' := by
  have HR := Aside0.mk hr
  have HM := Aside0.mk hr.2.1
  have HL := Aside0.mk hl
  clear hr hl
  go_enter Try.func28, Try.ntmps28
  go_wp2
  go_loop [3, 11] (fun s i => ∃ k : Nat, k ≤ ls.length ∧ i = .int .i64 k ∧ s = .int .i64 (lensum (ls.take k) : Nat)) (fun _ i => ls.length - (intOf i).toNat)
  case atStart => exact ⟨0, by omega, rfl, rfl⟩
  case round =>
    obtain ⟨k, hk, rfl, rfl⟩ := hrel
    have hm := HM.out
    have hs1 : lensum (ls.take k) ≤ 140737488355328 := Nat.le_trans (lensum_le ls k) HL.out
    by_cases hlt : k < ls.length
    · have hs2 : lensum (ls.take k) + ls[k].length ≤ 140737488355328 := by rw [← lensum_take ls k hlt]; exact Nat.le_trans (lensum_le ls (k + 1)) HL.out
      have HS := Aside0.mk (lensum_take ls k hlt)
      obtain ⟨ad, A1, c1, rfl, hcell, hc1, hC⟩ := rows_at HR.out k hlt
      have HC := Aside0.mk hC
      clear hC
      go_wp2
      go_round
      case rel => exact ⟨k + 1, by omega, by go_num, by rw [HS.out]; go_num⟩
      case measure => simp [intOf]; omega
    · obtain rfl : k = ls.length := by omega
      rw [List.take_length] at *
      go_wp2_with (go_at_call 29; refine (slices_Grow.nil _ (by omega) (by omega) _).mono ?_; rintro e w1 ⟨v1, rfl, ho, hb⟩; have HO := Aside0.mk ho; have HB := Aside0.mk hb; clear ho hb)
      go_loopw [6, 27] (fun v i wr => ∃ k : Nat, k ≤ ls.length ∧ i = .int .i64 k ∧ Aside0 (Kd.R (Kd.int .u8) 5 wr w.heap.size (fun _ => True) v (ls.take k).flatten) ∧ Aside0 (Below w.heap.size w wr)) (fun _ i _ => ls.length - (intOf i).toNat)
      case atStart => exact ⟨0, by omega, rfl, HO, HB⟩
      case round =>
        clear HO HB
        obtain ⟨k, hk, rfl, HO, HB⟩ := hrel
        by_cases hlt : k < ls.length
        · obtain ⟨ad, A1, c1, rfl, hcell, hc1, hC⟩ := rows_at (Kd.C_below HR.out HB.out) k hlt
          have HC := Aside0.mk hC
          have HF := Aside0.mk (flatten_take ls k hlt)
          have HS := Aside0.mk (show (ls.take k).flatten.length + ls[k].length ≤ 140737488355328 from by
            rw [flatten_len, ← lensum_take ls k hlt]; exact Nat.le_trans (lensum_le ls (k + 1)) HL.out)
          clear hC
          go_wp2_with (first | ((with_reducible refine gate_builtin (b := .append) (xs := #[.tmp 31, .tmp 32]) rfl ?_); at_builtin; refine Kd.R_append_rows (Kd.int .u8) (w0 := w) w.heap.size rfl (.tmp 31) (.tmp 32) 22 5 (.int .u8 0) 1 rfl Try.underlying22 info5 rfl (by decide) (by omega) _ _ ls[k] _ _ _ (fun _ => True) (fun _ => False) rfl rfl HO.out HC.out (fun _ _ h => h) (fun _ h => h.elim) (fun _ _ => trivial) HB.out HB.out.size (by have := HS.out; omega) ?_; intro v1 w2 ho hb _ _; have HO2 := Aside0.mk ho; have HB2 := Aside0.mk hb; clear ho hb))
          go_roundw
          case rel => exact ⟨k + 1, by omega, by go_num, by rw [HF.out]; exact HO2, HB2⟩
          case measure => simp [intOf]; omega
        · obtain rfl : k = ls.length := by omega
          rw [List.take_length] at HO
          go_wp2
          go_ret
          exact ⟨_, rfl, HO.out, HB.out⟩
/-! ### end of GIVEN -/
/-! ### GIVEN num_join: function 23 -/
theorem rows_two {α : Type} {d : Kd α} {e t : Nat} {W : World} {A0 A1 : Option Addr} {c0 c1 : Nat} {l0 l1 : List α} (h0 : Kd.C d W A0 l0.length l0) (hc0 : l0.length ≤ c0) (h1 : Kd.C d W A1 l1.length l1) (hc1 : l1.length ≤ c1) :
    Kd.C (Kd.slice e d) (W.alloc (.cells #[.slice A0 l0.length c0, .slice A1 l1.length c1] t)) (some ⟨W.heap.size, 0, none⟩) 2 [l0, l1] := by
  refine ⟨rfl, by omega, fun _ => ⟨_, rfl, fun j p hj => ?_⟩⟩
  have cell : ∀ i, (W.alloc (.cells #[Value.slice A0 l0.length c0, .slice A1 l1.length c1] t)).cell? ((⟨W.heap.size, 0, none⟩ : Addr).add i) = (#[Value.slice A0 l0.length c0, .slice A1 l1.length c1] : Array Value)[i]? := fun i => by
    rw [add_plain, cell_of_row _ _ _ _ _ _ (heap_alloc_new W _)]
  rcases j with _ | _ | j
  · obtain rfl : l0 = p := by simpa using hj
    refine ⟨[.slice A0 l0.length c0], rfl, ⟨A0, c0, rfl, hc0, Kd.C_alloc h0 _⟩, fun i u hu => ?_⟩
    rcases i with _ | i
    · rw [cell]; exact hu
    · simp at hu
  · obtain rfl : l1 = p := by simpa using hj
    refine ⟨[.slice A1 l1.length c1], rfl, ⟨A1, c1, rfl, hc1, Kd.C_alloc h1 _⟩, fun i u hu => ?_⟩
    rcases i with _ | i
    · rw [cell]; exact hu
    · simp at hu
  · simp at hj
def num_join.f (l0 l1 : List Int) : Option (List Int) := if l0.length + l1.length ≤ 140737488355328 then some (l0 ++ l1) else none
theorem num_join.calls (A0 : Option Addr) (c0 : Nat) (l0 : List Int) (A1 : Option Addr) (c1 : Nat) (l1 : List Int) (r : List Int) (w : World) (hr0 : Kd.C (Kd.int .u8) w A0 l0.length l0) (hc0 : l0.length ≤ c0) (hr1 : Kd.C (Kd.int .u8) w A1 l1.length l1) (hc1 : l1.length ≤ c1) (h : num_join.f l0 l1 = some r) :
    Calls Try.prog 23 #[.slice A0 l0.length c0, .slice A1 l1.length c1] w fun e w' => ∃ v0_ : Value, e = .returned (v0_) ∧ Kd.R (Kd.int .u8) 5 w' w.heap.size (fun _ => True) v0_ r ∧ Below w.heap.size w w' := by
  have hl : l0.length + l1.length ≤ 140737488355328 := by
    unfold num_join.f at h
    split at h
    · assumption
    · cases h
  have hr : r = l0 ++ l1 := by
    unfold num_join.f at h
    rw [if_pos hl] at h
    exact (Option.some.inj h).symm
  have hC := rows_two (e := 5) (t := 22) hr0 hc0 hr1 hc1
  have HX := Aside0.mk (slices_Concat.calls _ 2 _ _ hC (by simp only [lensum, List.map_cons, List.map_nil, List.sum_cons, List.sum_nil]; omega))
  have HB := Aside0.mk ((Below.refl w.heap.size w).alloc (Nat.le_refl _) (.cells #[.slice A0 l0.length c0, .slice A1 l1.length c1] 22))
  subst hr
  clear h hr0 hc0 hr1 hc1 hC hl
  go_enter Try.func23, Try.ntmps23
  go_wp2_with (go_at_call 28; refine HX.out.mono ?_; rintro e w1 ⟨v1, rfl, ho, hb⟩; have HO := Aside0.mk ho; have HB1 := Aside0.mk hb; clear ho hb)
  go_ret
  exact ⟨_, rfl, Kd.R_lower (by simpa using HO.out) HB.out.size, below_step HB.out HB1.out⟩
/-! ### end of GIVEN -/
/-! ### GIVEN num_Put: function 11 -/
/-- Byte i of eight, the greatest first. -/
def eighth (x : Int) (i : Nat) : Int := IntKind.u64.wrap x / 2 ^ (8 * (7 - i)) % 256
def row8 (x : Int) (k : Nat) : Array Value := ((List.range 8).map fun i => if i < k then Value.int .u8 (eighth x i) else .int .u8 0).toArray
theorem row8_get (x : Int) (k : Nat) (h : k < 8) : (row8 x k)[k]? = some (.int .u8 0) := by simp [row8, h]
theorem row8_set (x : Int) (k : Nat) (h : k < 8) : (row8 x k).setIfInBounds k (.int .u8 (eighth x k)) = row8 x (k + 1) := by
  apply Array.ext
  · simp [row8]
  · intro i h1 h2
    simp [row8, List.getElem_set]
    by_cases e : k = i
    · subst e; simp
    · have : i < k + 1 ↔ i < k := by omega
      simp [e, this]
/-- The last n of the eight bytes. -/
def eights (x : Int) (n : Nat) : List Int := (List.range n).map fun i => eighth x (8 - n + i)
theorem eights_length (x : Int) (n : Nat) : (eights x n).length = n := by simp [eights]
theorem row8_reads (W : World) (g : Nat) (x : Int) (n : Nat) (t : TypeId) (h1 : 1 ≤ n) (h8 : n ≤ 8) (hg : W.heap[g]? = some (.cells (row8 x 8) t (0, 0))) : Kd.C (Kd.int .u8) W (some ⟨g, 8 - n, none⟩) (eights x n).length (eights x n) := by
  refine ⟨rfl, by rw [eights_length]; omega, fun _ => ⟨_, rfl, fun j p hj => ⟨[.int .u8 p], rfl, rfl, fun i u hu => ?_⟩⟩⟩
  have hi : i = 0 := by
    rcases i with _ | i
    · rfl
    · simp at hu
  subst hi
  simp at hu
  subst hu
  obtain ⟨hlt, hp⟩ := List.getElem?_eq_some_iff.1 hj
  rw [eights_length] at hlt
  have ha : (⟨g, 8 - n, none⟩ : Addr).add (j * (Kd.int IntKind.u8).sz + 0) = ⟨g, 8 - n + j, none⟩ := by
    show (⟨g, 8 - n, none⟩ : Addr).add (j * 1 + 0) = _
    unfold Addr.add
    split
    · have : j = 0 := by omega
      subst this; simp
    · simp
  rw [ha, cell_of_row _ _ _ _ _ _ hg]
  have : 8 - n + j < 8 := by omega
  simp [row8, this]
  rw [← hp]
  simp [eights]
set_option maxHeartbeats 400000 in
def num_Put.f (l0 : List Int) (x n : Int) : Option (List Int) := num_join.f l0 (if n < 1 ∨ 8 < n then [] else eights x n.toNat)
theorem num_Put.calls (A0 : Option Addr) (c0 : Nat) (l0 : List Int) (x n : Int) (r : List Int) (w : World) (hr0 : Kd.C (Kd.int .u8) w A0 l0.length l0) (hc0 : l0.length ≤ c0) (h : num_Put.f l0 x n = some r) :
    Calls Try.prog 11 #[.slice A0 l0.length c0, .int .i64 x, .int .i64 n] w fun e w' => ∃ v0_ : Value, e = .returned (v0_) ∧ Kd.R (Kd.int .u8) 5 w' w.heap.size (fun _ => True) v0_ r ∧ Below w.heap.size w w' := by
  have HR0 := Aside0.mk hr0
  have HC0 := Aside0.mk hc0
  unfold num_Put.f at h
  by_cases hbad : n < 1 ∨ 8 < n
  · rw [if_pos hbad] at h
    have H := Aside0.mk h
    clear hr0 hc0 h
    rcases hbad with hbad | hbad
    all_goals
      go_enter Try.func11, Try.ntmps11
      go_wp2_with (go_at_call 23; refine (num_join.calls _ _ l0 none 0 [] r _ HR0.out HC0.out (Kd.C_nil _ _) (Nat.le_refl _) H.out).mono ?_; rintro e w1 ⟨v1, rfl, ho, hb⟩; have HO := Aside0.mk ho; have HB1 := Aside0.mk hb; clear ho hb)
      go_ret
      exact ⟨_, rfl, HO.out, HB1.out⟩
  · rw [if_neg hbad] at h
    have H := Aside0.mk h
    clear hr0 hc0 h
    have h1 : 1 ≤ n := by omega
    have h8 : n ≤ 8 := by omega
    clear hbad
    go_enter Try.func11, Try.ntmps11
    go_wp2
    go_loopw [17] (fun i wr => ∃ k : Nat, k ≤ 8 ∧ i = .int .i64 k ∧ wr = w.alloc (.cells (row8 x k) 44)) (fun i _ => 8 - (intOf i).toNat)
    case atStart => exact ⟨0, by omega, rfl, rfl⟩
    case round =>
      obtain ⟨k, hk, rfl, rfl⟩ := hrel
      by_cases hlt : k < 8
      · have hcell := row8_get x k hlt
        go_wp2
        go_roundw
        case rel => exact ⟨k + 1, by omega, by go_num, by rw [← row8_set x k hlt]; rfl⟩
        case measure => simp [intOf]; omega
      · obtain rfl : k = 8 := by omega
        clear hk hlt
        obtain ⟨m, rfl⟩ : ∃ m : Nat, n = m := ⟨n.toNat, by omega⟩
        have hcut0 := fun W => Own.run_array_from (P := Try.prog) 44 5 8 Try.underlying44 (by kernel_rfl) w.heap.size .i64 (8 - (m : Int)) (8 - m) (by omega) (by omega) W
        rw [show 8 - (8 - m) = m from by omega] at hcut0
        have hcut : ∀ W, (Instr.sliceAt 44 (.pointer (some ⟨w.heap.size, 0, none⟩)) (some (.int .i64 (8 - (m : Int)))) none none).run Try.prog W = .ok (.slice (some ⟨w.heap.size, 8 - m, none⟩) (eights x m).length m) W := by rw [eights_length]; exact hcut0
        clear hcut0
        have HX := Aside0.mk (row8_reads (w.alloc (.cells (row8 x 8) 44)) w.heap.size x m 44 (by omega) (by omega) (heap_alloc_new w _))
        have HB := Aside0.mk ((Below.refl w.heap.size w).alloc (Nat.le_refl _) (.cells (row8 x 8) 44))
        go_wp2_with (go_at_call 23; refine (num_join.calls _ _ l0 _ _ (eights x m) r _ (Kd.C_below HR0.out HB.out) HC0.out HX.out (by rw [eights_length]; exact Nat.le_refl _) H.out).mono ?_; rintro e w1 ⟨v1, rfl, ho, hb⟩; have HO := Aside0.mk ho; have HB1 := Aside0.mk hb; clear ho hb)
        go_ret
        exact ⟨_, rfl, Kd.R_lower HO.out HB.out.size, below_step HB.out HB1.out⟩
/-! ### end of GIVEN -/
/-! ### GIVEN num_Take: function 13 -/
def takeStep (x c : Int) : Int := Go.bits .or .i64 (wrap64 (x * 256)) (wrap64 c)
def num_Take.f (l0 : List Int) (n : Int) : Option (Int × List Int × Int) :=
  if n < 1 ∨ 7 < n then some (0, [], 1) else if (l0.length : Int) < n then some (0, [], 2) else (num_join.f [] (l0.drop n.toNat)).bind fun r => some ((l0.take n.toNat).foldl takeStep 0, r, 0)
theorem foldT (l : List Int) (a : Int) (k : Nat) (h : k < l.length) : (l.take (k + 1)).foldl takeStep a = takeStep ((l.take k).foldl takeStep a) (rd l k) := by
  rw [List.take_succ_eq_append_getElem h, List.foldl_append]
  simp [rd, List.getD_eq_getElem?_getD, h]
set_option maxHeartbeats 1000000 in
theorem num_Take.calls (A0 : Option Addr) (c0 : Nat) (l0 : List Int) (n : Int) (r1 : Int) (r2 : List Int) (r3 : Int) (w : World) (hr0 : Kd.C (Kd.int .u8) w A0 l0.length l0) (hc0 : l0.length ≤ c0) (h : num_Take.f l0 n = some (r1, r2, r3)) :
    Calls Try.prog 13 #[.slice A0 l0.length c0, .int .i64 n] w fun e w' => ∃ v1_ : Value, e = .returned (.tuple #[.int .i64 r1, v1_, .int .i64 r3]) ∧ Kd.R (Kd.int .u8) 5 w' w.heap.size (fun _ => True) v1_ r2 ∧ Below w.heap.size w w' := by
  have HR0 := Aside0.mk hr0
  have HC0 := Aside0.mk hc0
  have HM := Aside0.mk hr0.2.1
  clear hr0 hc0
  unfold num_Take.f at h
  by_cases hbad : n < 1 ∨ 7 < n
  · rw [if_pos hbad] at h
    obtain ⟨rfl, rfl, rfl⟩ : 0 = r1 ∧ [] = r2 ∧ 1 = r3 := by simpa using h
    clear h
    rcases hbad with hbad | hbad
    all_goals
      go_enter Try.func13, Try.ntmps13
      go_wp2
      go_ret3
      exact ⟨_, rfl, Kd.R_nil _ _ _ _ _, Below.refl _ _⟩
  rw [if_neg hbad] at h
  have h1 : 1 ≤ n := by omega
  have h7 : n ≤ 7 := by omega
  clear hbad
  obtain ⟨m, rfl⟩ : ∃ m : Nat, n = m := ⟨n.toNat, by omega⟩
  have hm := HM.out
  by_cases hsh : (l0.length : Int) < m
  · rw [if_pos hsh] at h
    obtain ⟨rfl, rfl, rfl⟩ : 0 = r1 ∧ [] = r2 ∧ 2 = r3 := by simpa using h
    clear h
    have hsh2 : decide (l0.length < m) = true := by simp; omega
    go_enter Try.func13, Try.ntmps13
    go_wp2
    go_ret3
    exact ⟨_, rfl, Kd.R_nil _ _ _ _ _, Below.refl _ _⟩
  · rw [if_neg hsh] at h
    obtain ⟨q, hq, hr⟩ := Option.bind_eq_some_iff.1 h
    obtain ⟨rfl, rfl, rfl⟩ : _ = r1 ∧ q = r2 ∧ 0 = r3 := by simpa using hr
    rw [Int.toNat_natCast] at *
    have HQ := Aside0.mk hq
    clear h hr hq
    have hsh2 : decide (l0.length < m) = false := by simp; omega
    have hle : m ≤ l0.length := by omega
    obtain ⟨i0, hi0, _, hs0, _⟩ := info_parts info5
    have hcut := cut_to (P := Try.prog) 22 5 .i64 Try.underlying22 hi0 A0 l0.length c0 m (by omega) (by omega) HC0.out
    rw [Int.toNat_natCast] at hcut
    obtain ⟨A1, ys, HY, hcut2, HD, HCD⟩ := Own.cut_drop (P := Try.prog) (Kd.int .u8) 22 5 .i64 Try.underlying22 (by kernel_rfl) HR0.out HC0.out m hle
    go_enter Try.func13, Try.ntmps13
    go_wp2
    go_loop [7, 26] (fun v i => ∃ k : Nat, k ≤ m ∧ i = .int .i64 k ∧ v = .int .i64 ((l0.take k).foldl takeStep 0)) (fun _ i => m - (intOf i).toNat)
    case atStart => exact ⟨0, by omega, rfl, rfl⟩
    case round =>
      obtain ⟨k, hk, rfl, rfl⟩ := hrel
      by_cases hlt : k < m
      · have HF := Aside0.mk (foldT l0 0 k (by omega))
        obtain ⟨ad, hAd, hcell⟩ := Kd.at_int HR0.out (k : Int) (by omega) (by omega)
        subst hAd
        rw [Int.toNat_natCast] at hcell
        go_wp2
        go_round
        case rel => exact ⟨k + 1, by omega, by go_num, by rw [HF.out]; rfl⟩
        case measure => simp [intOf]; omega
      · obtain rfl : k = m := by omega
        go_wp2_with (go_at_call 23; refine (num_join.calls none 0 [] _ _ ys q _ (Kd.C_nil _ _) (Nat.le_refl _) HD.out HCD.out (by rw [HY.out]; exact HQ.out)).mono ?_; rintro e w1 ⟨v1, rfl, ho, hb⟩; have HO := Aside0.mk ho; have HB1 := Aside0.mk hb; clear ho hb)
        go_ret3
        exact ⟨_, rfl, HO.out, HB1.out⟩
/-! ### end of GIVEN -/
/-! ### num_put: function 24 -/
def num_put.f (l0 : List Int) (l1 : List Int) (a2 : Int) (a3 : Int) : Option (List Int × Int) := if (l1.length : Int) > a3 then (some (([] : List Int), 7)) else ((num_Put.f l0 (l1.length : Int) a2).bind fun t101 => ((num_join.f t101 l1).bind fun t104 => (some (t104, 0))))
set_option maxHeartbeats 8000000 in
set_option maxRecDepth 100000 in
theorem num_put.calls (A0 : Option Addr) (c0 : Nat) (l0 : List Int) (A1 : Option Addr) (c1 : Nat) (l1 : List Int) (a2 : Int) (a3 : Int) (r1 : List Int) (r2 : Int) (w : World) (hr0 : Kd.C (Kd.int .u8) w A0 l0.length l0) (hc0 : l0.length ≤ c0) (hr1 : Kd.C (Kd.int .u8) w A1 l1.length l1) (hc1 : l1.length ≤ c1) (h : num_put.f l0 l1 a2 a3 = some (r1, r2)) :
    Calls Try.prog 24 #[.slice A0 l0.length c0, .slice A1 l1.length c1, .int .i64 a2, .int .i64 a3] w fun e w' => ∃ v0_ : Value, e = .returned (.tuple #[v0_, .int .i64 r2]) ∧ Kd.R (Kd.int .u8) 5 w' w.heap.size (fun _ => True) v0_ r1 ∧ Below w.heap.size w w' := by
  have HR0 := Aside0.mk hr0
  have HC0 := Aside0.mk hc0
  clear hr0 hc0
  have HR1 := Aside0.mk hr1
  have HC1 := Aside0.mk hc1
  clear hr1 hc1
  have HB := Aside0.mk (Below.refl w.heap.size w)
  have H : (if (l1.length : Int) > a3 then (some (([] : List Int), 7)) else ((num_Put.f l0 (l1.length : Int) a2).bind fun t101 => ((num_join.f t101 l1).bind fun t104 => (some (t104, 0))))) = some (r1, r2) := h
  clear h
  by_cases c5 : (l1.length : Int) > a3
  · rw [if_pos c5] at H
    have c5b0 : decide (a3 < (l1.length : Int)) = true := decide_eq_true c5
    clear c5
    simp only [Option.some.injEq, Prod.mk.injEq] at H
    obtain ⟨rfl, rfl⟩ := H
    go_enter Try.func24, Try.ntmps24
    go_wp2
    go_ret2
    exact ⟨_, by first | rfl | (simp [errW_none, errW_some] <;> rfl) | (simp [*, errW_none, errW_some] <;> rfl), by first | exact Kd.R_nil _ _ _ _ _ | exact Kd.N_nil _ _ _ _ _ | exact Kd.V_nil _ _ _ _ _ | exact Kd.Q_nil _ _ _ _ _ | exact Kd.S_nil _ _ _ _ _, by repeat (first | (with_reducible first | exact HB.out | apply below_alloc | apply pw_below_drewN | apply below_drew1) | exact HB.out)⟩
  · rw [if_neg c5] at H
    have c5b0 : decide (a3 < (l1.length : Int)) = false := decide_eq_false c5
    clear c5
    replace H := Option.bind_eq_some_iff.mp H
    obtain ⟨t101, A60, H⟩ := H
    replace H : ((num_join.f t101 l1).bind fun t104 => (some (t104, 0))) = some (r1, r2) := H
    have A6 := Aside0.mk A60
    clear A60
    replace H := Option.bind_eq_some_iff.mp H
    obtain ⟨t104, A70, H⟩ := H
    replace H : (some (t104, 0)) = some (r1, r2) := H
    have A7 := Aside0.mk A70
    clear A70
    simp only [Option.some.injEq, Prod.mk.injEq] at H
    obtain ⟨rfl, rfl⟩ := H
    go_enter Try.func24, Try.ntmps24
    go_wp2_with (first | ((with_reducible refine gate_callee (f := 11) rfl ?_); refine goesL_ (some 18) rfl rfl Try.func11 (by kernel_rfl) rfl #[.slice A0 l0.length c0, .int .i64 (l1.length : Int), .int .i64 a2] rfl (by (try simp only [List.map_toArray, List.map_cons, List.map_nil]); first | done | rfl | (simp only [List.length_drop, List.length_take]; rfl)) ?_; (with_reducible refine (num_Put.calls _ _ l0 (l1.length : Int) a2 t101 _ ?side1 ?side2 A6.out).mono ?_); (case side1 => repeat (first | exact HR0.out | (with_reducible refine Kd.C_alloc ?_ _) | (with_reducible refine Kd.C_drewN ?_ _) | (with_reducible refine Kd.C_drew ?_))); (case side2 => exact HC0.out); rintro e w8 ⟨v102, rfl, ho0, hb⟩; refine ⟨_, rfl, ?_⟩; have n0_ := Aside0.mk (Kd.R_lower ho0 (below_size (by repeat (first | (with_reducible first | exact HB.out | apply below_alloc | apply pw_below_drewN | apply below_drew1) | exact HB.out)))); have n1_ := Aside0.mk (below_step (by repeat (first | (with_reducible first | exact HB.out | apply below_alloc | apply pw_below_drewN | apply below_drew1) | exact HB.out)) hb); clear HB; have HO103 := n0_; have HB := n1_; clear n0_ n1_; (try clear hb); (try clear hb2); (try clear hk); (try clear hi); (try clear ho0); obtain ⟨Ao9, co9, eo9⟩ := Kd.R_slice HO103.out; subst eo9) | ((with_reducible refine gate_callee (f := 23) rfl ?_); refine goesL_ (some 20) rfl rfl Try.func23 (by kernel_rfl) rfl #[.slice Ao9 t101.length co9, .slice A1 l1.length c1] rfl (by (try simp only [List.map_toArray, List.map_cons, List.map_nil]); first | done | rfl | (simp only [List.length_drop, List.length_take]; rfl)) ?_; (with_reducible refine (num_join.calls _ _ t101 _ _ l1 t104 _ ?side1 ?side2 ?side3 ?side4 A7.out).mono ?_); (case side1 => repeat (first | exact (Kd.R_reads' HO103.out).2.2 | (with_reducible refine Kd.C_alloc ?_ _) | (with_reducible refine Kd.C_drewN ?_ _) | (with_reducible refine Kd.C_drew ?_))); (case side2 => exact (Kd.R_reads' HO103.out).2.1); (case side3 => repeat (first | exact (Kd.C_below HR1.out HB.out) | (with_reducible refine Kd.C_alloc ?_ _) | (with_reducible refine Kd.C_drewN ?_ _) | (with_reducible refine Kd.C_drew ?_))); (case side4 => exact HC1.out); rintro e w10 ⟨v105, rfl, ho0, hb⟩; refine ⟨_, rfl, ?_⟩; have n0_ := Aside0.mk (Kd.R_elder' (by (with_reducible repeat (first | apply Kd.R_alloc | apply Kd.R_drewN | apply Kd.R_drew)); exact HO103.out) (Kd.R_base ho0) hb); have n1_ := Aside0.mk (Kd.R_lower (Kd.R_new' ho0 (Kd.R_lt (by (with_reducible repeat (first | apply Kd.R_alloc | apply Kd.R_drewN | apply Kd.R_drew)); exact HO103.out))) (below_size (by repeat (first | (with_reducible first | exact HB.out | apply below_alloc | apply pw_below_drewN | apply below_drew1) | exact HB.out)))); have n2_ := Aside0.mk (below_step (by repeat (first | (with_reducible first | exact HB.out | apply below_alloc | apply pw_below_drewN | apply below_drew1) | exact HB.out)) hb); clear HO103; clear HB; have HO103 := n0_; have HO106 := n1_; have HB := n2_; clear n0_ n1_ n2_; (try clear hb); (try clear hb2); (try clear hk); (try clear hi); (try clear ho0)))
    go_ret2
    exact ⟨_, by first | rfl | (simp [errW_none, errW_some] <;> rfl) | (simp [*, errW_none, errW_some] <;> rfl), by (with_reducible repeat (first | apply Kd.R_alloc | apply Kd.R_drewN | apply Kd.R_drew)); exact Kd.R_mono HO106.out (fun _ hk => trivial), by repeat (first | (with_reducible first | exact HB.out | apply below_alloc | apply pw_below_drewN | apply below_drew1) | exact HB.out)⟩

/-! ### GIVEN num_PutText: function 15 -/
def num_PutText.f (l0 : List Int) (a1 : ByteArray) : Option (List Int × Int) := if a1.size ≤ 9223372036854775807 then num_put.f l0 (bytesOf a1) 1 255 else none
theorem num_PutText.calls (A0 : Option Addr) (c0 : Nat) (l0 : List Int) (a1 : ByteArray) (r1 : List Int) (r2 : Int) (w : World) (hr0 : Kd.C (Kd.int .u8) w A0 l0.length l0) (hc0 : l0.length ≤ c0) (h : num_PutText.f l0 a1 = some (r1, r2)) :
    Calls Try.prog 15 #[.slice A0 l0.length c0, .string a1] w fun e w' => ∃ v0_ : Value, e = .returned (.tuple #[v0_, .int .i64 r2]) ∧ Kd.R (Kd.int .u8) 5 w' w.heap.size (fun _ => True) v0_ r1 ∧ Below w.heap.size w w' := by
  unfold num_PutText.f at h
  by_cases hs : a1.size ≤ 9223372036854775807
  · rw [if_pos hs] at h
    have HC0 := Aside0.mk hc0
    have HB := Aside0.mk (bytes_below (Below.refl w.heap.size w) (Nat.le_refl _) 5 a1)
    have HR0 := Aside0.mk (Kd.C_below hr0 HB.out)
    have HR1 := Aside0.mk (Kd.C_of_reads (d := (0 : Int)) (h1 := fun _ => rfl) (bytes_reads w 5 a1 hs))
    have HG := Aside0.mk (grownCap_ge w a1.size 0 5)
    have kb0 := print_bytes (P := Try.prog) 9 22 5 Try.underlying9 Try.underlying22 Try.underlying5 a1 w
    have kb : (convert 9 22 (.string a1)).run Try.prog w = .ok (.slice (some ⟨w.heap.size, 0, none⟩) (bytesOf a1).length (grownCap w a1.size 0 5)) (Lib.bytesWorld w 5 a1) := by rw [bytesOf_length]; exact kb0
    have HR2 := Aside0.mk (show Kd.C (Kd.int .u8) (Lib.bytesWorld w 5 a1) (some ⟨w.heap.size, 0, none⟩) (bytesOf a1).length (bytesOf a1) from by rw [bytesOf_length]; exact HR1.out)
    have HG2 := Aside0.mk (show (bytesOf a1).length ≤ grownCap w a1.size 0 5 from by rw [bytesOf_length]; exact HG.out)
    have H := Aside0.mk h
    clear h hs hr0 hc0 kb0
    go_enter Try.func15, Try.ntmps15
    go_wp2_with (go_at_call 24; refine (num_put.calls _ _ l0 _ _ (bytesOf a1) 1 255 r1 r2 _ HR0.out HC0.out HR2.out HG2.out H.out).mono ?_; rintro e w1 ⟨v1, rfl, ho, hb⟩; have HO := Aside0.mk ho; have HB1 := Aside0.mk hb; clear ho hb)
    go_ret2
    exact ⟨_, rfl, Kd.R_lower HO.out HB.out.size, below_step HB.out HB1.out⟩
  · rw [if_neg hs] at h
    cases h
/-! ### end of GIVEN -/
/-! ### GIVEN num_take: function 26 -/
def num_take.f (l0 : List Int) (n : Int) : Option (List Int × List Int × Int) :=
  (num_Take.f l0 n).bind fun t => if t.2.2 ≠ 0 ∨ (t.2.1.length : Int) < t.1 then some ([], [], 2) else if 0 ≤ t.1 then some (t.2.1.take t.1.toNat, t.2.1.drop t.1.toNat, 0) else none
set_option maxHeartbeats 1000000 in
/-- Both rows lie in memory that is new, and may be one. -/
theorem num_take.two (A0 : Option Addr) (c0 : Nat) (l0 : List Int) (n : Int) (r1 r2 : List Int) (r3 : Int) (w : World) (hr0 : Kd.C (Kd.int .u8) w A0 l0.length l0) (hc0 : l0.length ≤ c0) (h : num_take.f l0 n = some (r1, r2, r3)) :
    Calls Try.prog 26 #[.slice A0 l0.length c0, .int .i64 n] w fun e w' => ∃ v0_ v1_ : Value, e = .returned (.tuple #[v0_, v1_, .int .i64 r3]) ∧ Kd.V (Kd.int .u8) 5 w' w.heap.size (fun k_ => (w.heap.size ≤ k_)) v0_ r1 ∧ Kd.V (Kd.int .u8) 5 w' w.heap.size (fun k_ => (w.heap.size ≤ k_)) v1_ r2 ∧ Below w.heap.size w w' := by
  have HR0 := Aside0.mk hr0
  have HC0 := Aside0.mk hc0
  clear hr0 hc0
  unfold num_take.f at h
  obtain ⟨⟨k, rest, er⟩, ht, h⟩ := Option.bind_eq_some_iff.1 h
  have HT := Aside0.mk ht
  clear ht
  dsimp only at h
  by_cases hbad : er ≠ 0 ∨ (rest.length : Int) < k
  · rw [if_pos hbad] at h
    obtain ⟨rfl, rfl, rfl⟩ : [] = r1 ∧ [] = r2 ∧ 2 = r3 := by simpa using h
    clear h
    by_cases he : er = 0
    · subst he
      have hk : (rest.length : Int) < k := by rcases hbad with h | h; exact absurd rfl h; exact h
      clear hbad
      go_enter Try.func26, Try.ntmps26
      go_wp2_with (go_at_call 13; refine (num_Take.calls _ _ l0 n k rest 0 _ HR0.out HC0.out HT.out).mono ?_; rintro e w1 ⟨v1, rfl, ho, hb⟩; have HO := Aside0.mk ho; have HB1 := Aside0.mk hb; clear ho hb; obtain ⟨A1, c1, he1⟩ := Kd.R_slice HO.out; subst he1)
      go_ret3
      exact ⟨_, _, rfl, Kd.V_nil _ _ _ _ _, Kd.V_nil _ _ _ _ _, HB1.out⟩
    · clear hbad
      have he2 : (er != 0) = true := by simpa using he
      go_enter Try.func26, Try.ntmps26
      go_wp2_with (go_at_call 13; refine (num_Take.calls _ _ l0 n k rest er _ HR0.out HC0.out HT.out).mono ?_; rintro e w1 ⟨v1, rfl, ho, hb⟩; have HO := Aside0.mk ho; have HB1 := Aside0.mk hb; clear ho hb; obtain ⟨A1, c1, he1⟩ := Kd.R_slice HO.out; subst he1)
      go_ret3
      exact ⟨_, _, rfl, Kd.V_nil _ _ _ _ _, Kd.V_nil _ _ _ _ _, HB1.out⟩
  · rw [if_neg hbad] at h
    obtain ⟨rfl, hle⟩ : er = 0 ∧ k ≤ rest.length := by omega
    clear hbad
    by_cases h0 : 0 ≤ k
    · rw [if_pos h0] at h
      obtain ⟨m, rfl⟩ : ∃ m : Nat, k = m := ⟨k.toNat, by omega⟩
      rw [Int.toNat_natCast] at h
      obtain ⟨rfl, rfl, rfl⟩ : rest.take m = r1 ∧ rest.drop m = r2 ∧ 0 = r3 := by simpa using h
      clear h
      have hle2 : m ≤ rest.length := by omega
      have hlt : decide (rest.length < m) = false := by simp; omega
      go_enter Try.func26, Try.ntmps26
      go_wp2_with (go_at_call 13; refine (num_Take.calls _ _ l0 n m rest 0 _ HR0.out HC0.out HT.out).mono ?_; rintro e w1 ⟨v1, rfl, ho, hb⟩; have HO := Aside0.mk ho; have HB1 := Aside0.mk hb; clear ho hb; obtain ⟨A1, c1, he1⟩ := Kd.R_slice HO.out; subst he1)
      have hcc := (Kd.R_reads' HO.out).2.1
      have hF := Kd.R_F (Kd.R_mono (ok' := fun k_ => w.heap.size ≤ k_) (Kd.R_bound HO.out) (fun k hk => hk.2.1))
      have hV0 := Kd.V_mk (e := 5) (base := w.heap.size) (c := m) (by rw [List.length_take]; omega) (Kd.F_take hF hle2)
      have hV1 := Kd.V_mk (e := 5) (base := w.heap.size) (c := c1 - m) (by rw [List.length_drop]; omega) (Kd.F_cut (c := c1) hF hle2 hcc)
      obtain ⟨A2, hA2⟩ : ∃ A2, A2 = (if c1 = m then A1 else A1.map (·.add (m * (Kd.int IntKind.u8).sz))) := ⟨_, rfl⟩
      rw [← hA2] at hV1
      rw [List.length_take, Nat.min_eq_left hle2] at hV0
      rw [List.length_drop] at hV1
      have hcut0 := fun W => Own.run_cut3 (P := Try.prog) 22 5 .i64 .i64 Try.underlying22 (z := 1) (by kernel_rfl) A1 rest.length c1 m (by omega) W
      obtain ⟨i0, hi0, _, hs0, _⟩ := info_parts info5
      have hcut1 := cut_from (P := Try.prog) 22 5 .i64 Try.underlying22 hi0 1 hs0 A1 rest.length c1 m (by omega) (by omega)
      rw [Int.toNat_natCast] at hcut1
      have hA3 : A2 = (if c1 = m then A1 else A1.map (·.add (m * 1))) := hA2
      rw [← hA3] at hcut1
      have HV0 := Aside0.mk hV0
      have HV1 := Aside0.mk hV1
      clear hV0 hV1 hF hA2 hA3 hi0 hs0
      go_quiet (fail)
      go_wp2
      go_ret3
      exact ⟨_, _, rfl, Kd.V_drewN HV0.out _, Kd.V_drewN HV1.out _, pw_below_drewN HB1.out _⟩
    · rw [if_neg h0] at h
      cases h
/-! ### end of GIVEN -/
/-! ### GIVEN num_TakeText: function 19 -/
def num_TakeText.f (l0 : List Int) : Option (ByteArray × List Int × Int) := (num_take.f l0 1).bind fun t => some (strOfNums t.1, t.2.1, t.2.2)
set_option maxHeartbeats 400000 in
theorem num_TakeText.calls (A0 : Option Addr) (c0 : Nat) (l0 : List Int) (r1 : ByteArray) (r2 : List Int) (r3 : Int) (w : World) (hr0 : Kd.C (Kd.int .u8) w A0 l0.length l0) (hc0 : l0.length ≤ c0) (h : num_TakeText.f l0 = some (r1, r2, r3)) :
    Calls Try.prog 19 #[.slice A0 l0.length c0] w fun e w' => ∃ v1_ : Value, e = .returned (.tuple #[.string r1, v1_, .int .i64 r3]) ∧ Kd.V (Kd.int .u8) 5 w' w.heap.size (fun k_ => (w.heap.size ≤ k_)) v1_ r2 ∧ Below w.heap.size w w' := by
  have HR0 := Aside0.mk hr0
  have HC0 := Aside0.mk hc0
  unfold num_TakeText.f at h
  obtain ⟨⟨x, rest, er⟩, ht, h⟩ := Option.bind_eq_some_iff.1 h
  obtain ⟨rfl, rfl, rfl⟩ : strOfNums x = r1 ∧ rest = r2 ∧ er = r3 := by simpa using h
  have HT := Aside0.mk ht
  clear ht hr0 hc0 h
  go_enter Try.func19, Try.ntmps19
  go_wp2_with (go_at_call 26; refine (num_take.two _ _ l0 1 x rest er _ HR0.out HC0.out HT.out).mono ?_; rintro e w1 ⟨v0, v1, rfl, h0, h1, hb⟩; have HO := Aside0.mk h0; have HO1 := Aside0.mk h1; have HB1 := Aside0.mk hb; clear h0 h1 hb; obtain ⟨A1, c1, he1⟩ := Kd.V_slice HO.out; subst he1; have hcv := fun c_ : Nat => Kd.C_string (c := c_) (P := Try.prog) Try.underlying22 Try.underlying5 Try.underlying9 (Kd.V_reads' HO.out).2.2)
  go_ret3
  exact ⟨_, rfl, HO1.out, HB1.out⟩
/-! ### end of GIVEN -/
/-! ### GIVEN cambiumlaw01_shown: function 9 -/
def cambiumlaw01_shown.f : Option Bool := some true
set_option maxHeartbeats 1000000 in
theorem cambiumlaw01_shown.calls (r : Bool) (w : World) (h : cambiumlaw01_shown.f = some r) :
    Calls Try.prog 9 #[] w fun e w' => e = .returned (.bool r) ∧ Below w.heap.size w w' := by
  obtain rfl : true = r := by injection h
  have V1 := Aside0.mk (show num_Put.f [] 258 2 = some [1, 2] from by decide +kernel)
  have V2 := Aside0.mk (show num_Take.f [1, 2] 2 = some (258, [], 0) from by decide +kernel)
  have V3 := Aside0.mk (show num_Take.f [1, 2] 3 = some (0, [], 2) from by decide +kernel)
  have V4 := Aside0.mk (show num_PutText.f [] ⟨#[97, 98]⟩ = some ([2, 97, 98], 0) from by decide +kernel)
  have V5 := Aside0.mk (show num_TakeText.f [2, 97] = some (ByteArray.empty, [], 2) from by decide +kernel)
  clear h
  go_enter Try.func9, Try.ntmps9
  go_wp2_with fail
  go_at_call 11
  refine (num_Put.calls none 0 [] 258 2 _ _ (Kd.C_nil _ _) (Nat.le_refl _) V1.out).mono ?_
  rintro e w1 ⟨v1, rfl, ho, hb⟩
  obtain ⟨A1, c1, he1, hc1, hC1⟩ := Kd.R_reads ho
  subst he1
  have HB1 := Aside0.mk hb
  have HC1 := Aside0.mk hc1
  have HR1 := Aside0.mk hC1
  clear ho hb hc1 hC1
  go_wp2_with fail
  go_at_call 13
  refine (num_Take.calls _ _ [1, 2] 2 _ _ _ _ HR1.out HC1.out V2.out).mono ?_
  rintro e w2 ⟨v2, rfl, ho, hb⟩
  obtain ⟨A2, c2, he2, hc2, hC2⟩ := Kd.R_reads ho
  subst he2
  have HB2 := Aside0.mk (below_step HB1.out hb)
  have HR2 := Aside0.mk (Kd.C_below HR1.out hb)
  clear ho hb hc2 hC2 HR1
  go_wp2_with fail
  go_at_call 13
  refine (num_Take.calls _ _ [1, 2] 3 _ _ _ _ HR2.out HC1.out V3.out).mono ?_
  rintro e w3 ⟨v3, rfl, ho, hb⟩
  have HB3 := Aside0.mk (below_step HB2.out hb)
  have HR3 := Aside0.mk (Kd.C_below HR2.out hb)
  clear ho hb HR2
  go_wp2_with fail
  go_at_call 15
  refine (num_PutText.calls none 0 [] _ _ _ _ (Kd.C_nil _ _) (Nat.le_refl _) V4.out).mono ?_
  rintro e w4 ⟨v4, rfl, ho, hb⟩
  obtain ⟨A4, c4, he4, hc4, hC4⟩ := Kd.R_reads ho
  subst he4
  have HB4 := Aside0.mk (below_step HB3.out hb)
  have HR4 := Aside0.mk (Kd.C_below HR3.out hb)
  have HT4 := Aside0.mk hC4
  clear ho hb hc4 hC4 HR3
  have HB4a := Aside0.mk (HB4.out.alloc HB4.out.size (.cells #[.int .u8 2, .int .u8 97] 5))
  have HL := Aside0.mk (Own.marked_reads w4 5 [2, 97] _ (0, 0) rfl (by decide))
  have HR4a := Aside0.mk (Kd.C_alloc HR4.out (.cells #[.int .u8 2, .int .u8 97] 5))
  have HT4a := Aside0.mk (Kd.C_alloc HT4.out (.cells #[.int .u8 2, .int .u8 97] 5))
  clear HR4 HT4
  go_wp2_with fail
  go_at_call 19
  refine (num_TakeText.calls _ 2 [2, 97] _ _ _ _ HL.out (by decide) V5.out).mono ?_
  rintro e w5 ⟨v5, rfl, ho, hb⟩
  have HB5 := Aside0.mk (below_step HB4a.out hb)
  have e1 : strOfNums [1, 2] = ⟨#[1, 2]⟩ := by decide +kernel
  have e2 : strOfNums [2, 97, 98] = ⟨#[2, 97, 98]⟩ := by decide +kernel
  have HR5 : (convert 22 9 (.slice A1 2 c1)).run Try.prog w5 = .ok (.string ⟨#[1, 2]⟩) w5 := by rw [← e1]; exact Kd.C_string Try.underlying22 Try.underlying5 Try.underlying9 (Kd.C_below HR4a.out hb)
  have HT5 : (convert 22 9 (.slice A4 3 c4)).run Try.prog w5 = .ok (.string ⟨#[2, 97, 98]⟩) w5 := by rw [← e2]; exact Kd.C_string Try.underlying22 Try.underlying5 Try.underlying9 (Kd.C_below HT4a.out hb)
  clear ho hb e1 e2
  go_wp2
  go_ret
  exact ⟨rfl, HB5.out⟩
/-! ### end of GIVEN -/
/-! ### cambiumlaw01_few: function 10 -/
def cambiumlaw01_few.f (l0 : List Int) : Option (List Int) := if (l0.length : Int) > 1000 then (if 1000 ≤ (l0.length : Int) then (some (l0.take 1000)) else (none)) else (some l0)
set_option maxHeartbeats 8000000 in
set_option maxRecDepth 100000 in
theorem cambiumlaw01_few.calls (P0_ : Nat → Prop) (A0 : Option Addr) (c0 : Nat) (l0 : List Int) (r : List Int) (w : World) (hs0 : Kd.V (Kd.int .u8) 5 w w.heap.size (fun k_ => P0_ k_) (.slice A0 l0.length c0) l0) (h : cambiumlaw01_few.f l0 = some r) :
    Calls Try.prog 10 #[.slice A0 l0.length c0] w fun e w' => ∃ v0_ : Value, e = .returned (v0_) ∧ Kd.V (Kd.int .u8) 5 w' w.heap.size (fun k_ => (P0_ k_ ∨ w.heap.size ≤ k_)) v0_ r ∧ Below w.heap.size w w' := by
  have HO0 := Aside0.mk (show Kd.V (Kd.int .u8) 5 w w.heap.size (fun k_ => (P0_ k_ ∨ w.heap.size ≤ k_)) (.slice A0 l0.length c0) l0 from Kd.V_mono hs0 (fun k_ hk => .inl hk))
  have HB := Aside0.mk (Below.refl w.heap.size w)
  have H : (if (l0.length : Int) > 1000 then (if 1000 ≤ (l0.length : Int) then (some (l0.take 1000)) else (none)) else (some l0)) = some r := h
  clear h
  by_cases c2 : (l0.length : Int) > 1000
  · rw [if_pos c2] at H
    have c2b0 : decide (1000 < (l0.length : Int)) = true := decide_eq_true c2
    have c2b1 : decide (1000 < l0.length) = true := decide_eq_true (by omega)
    clear c2
    by_cases c3 : 1000 ≤ (l0.length : Int)
    · rw [if_pos c3] at H
      have c3b0 := eq_true c3
      have c3b1 : decide (1000 ≤ (l0.length : Int)) = true := decide_eq_true c3
      clear c3
      obtain ⟨y107, hy107⟩ : ∃ y_ : List Int, y_ = (l0.take 1000) := ⟨_, rfl⟩
      replace H : (some y107) = some r := by first | (rw [hy107]; with_reducible exact H) | (have H2_ := (Option.bind_some _ _).symm.trans H; rw [hy107]; with_reducible exact H2_) | (have H2_ := (Option.bind_some _ _).symm.trans H; with_reducible exact H2_) | with_reducible exact H | (rw [hy107]; exact H) | exact H
      have Ny107 := Aside0.mk hy107
      clear hy107
      obtain rfl := Option.some.inj H
      have q4 : (1000 : Int) ≤ ((l0.length : Int) : Int) := of_decide_eq_true (by first | (with_reducible assumption) | assumption)
      obtain ⟨i04, hi04, _, hsz4, _⟩ := info_parts info5
      have hroom4 : l0.length ≤ c0 := (Kd.V_reads' HO0.out).2.1
      have hC4 : Kd.F (Kd.int .u8) _ _ A0 l0.length l0 := (Kd.V_at (base := w.heap.size) HO0.out).2.2
      have hcut4 := cut_to (P := Try.prog) 22 5 .i64 Try.underlying22 hi04 A0 l0.length c0 1000 (by omega) q4 hroom4
      have hr4 := Kd.F_take (m := 1000) hC4 (by omega)
      have hy4 : y107.length = (1000 : Int).toNat := (by rw [Ny107.out, List.length_take]; omega)
      rw [← Ny107.out] at hr4
      rw [← hy4] at hcut4
      have HO111 := Aside0.mk (show Kd.V (Kd.int .u8) 5 _ w.heap.size _ (.slice A0 y107.length c0) y107 from Kd.V_mk (by omega) hr4)
      have HC111 := Aside0.mk (show y107.length ≤ c0 from by omega)
      clear hr4 hC4 hroom4 hi04 hsz4
      have KY4 := Aside0.mk hy4
      clear hy4
      replace q4 := eq_true q4
      go_enter Try.func10, Try.ntmps10
      go_wp2
      go_ret
      exact ⟨_, by first | rfl | (simp [errW_none, errW_some] <;> rfl) | (simp [*, errW_none, errW_some] <;> rfl), by (with_reducible repeat (first | apply Kd.V_alloc | apply Kd.V_drewN | apply Kd.V_drew)); exact HO111.out, by repeat (first | (with_reducible first | exact HB.out | apply below_alloc | apply pw_below_drewN | apply below_drew1) | exact HB.out)⟩
    · rw [if_neg c3] at H
      exact absurd H (by simp)
  · rw [if_neg c2] at H
    have c2b0 : decide (1000 < (l0.length : Int)) = false := decide_eq_false c2
    have c2b1 : decide (1000 < l0.length) = false := decide_eq_false (by omega)
    clear c2
    obtain rfl := Option.some.inj H
    go_enter Try.func10, Try.ntmps10
    go_wp2
    go_ret
    exact ⟨_, by first | rfl | (simp [errW_none, errW_some] <;> rfl) | (simp [*, errW_none, errW_some] <;> rfl), by (with_reducible repeat (first | apply Kd.V_alloc | apply Kd.V_drewN | apply Kd.V_drew)); exact HO0.out, by repeat (first | (with_reducible first | exact HB.out | apply below_alloc | apply pw_below_drewN | apply below_drew1) | exact HB.out)⟩

/-! ### cambiumref01_Put: function 12 -/
mutual
def cambiumref01_Put.j0 : Nat → Int → Int → List Int → Bool → Option (List Int)
  | 0, _, _, _, _ => none
  | k + 1, x1, x2, x7, x17 => if x17 = true then (some x7) else (cambiumref01_Put.l0 k x1 x7 (wrap64 (x2 - 1)))
def cambiumref01_Put.l0 : Nat → Int → List Int → Int → Option (List Int)
  | 0, _, _, _ => none
  | k + 1, x1, x7, x8 => if x8 ≥ 0 then (if 0 ≤ (wrap64 (8 * x8)) then (if x7.length < 140737488355328 then (cambiumref01_Put.l0 k x1 (x7 ++ [(shr .u64 (IntKind.u64.wrap (x1)) (wrap64 (8 * x8))) % 256]) (wrap64 (x8 - 1))) else (none)) else (none)) else (some x7)
end
def cambiumref01_Put.f (k : Nat) (l0 : List Int) (a1 : Int) (a2 : Int) : Option (List Int) := (some (([] : List Int) : List Int)).bind fun y112 => (if y112.length + l0.length < 140737488355328 then ((some (y112 ++ l0 : List Int)).bind fun y115 => (if a2 < 1 then (cambiumref01_Put.j0 k a1 a2 y115 true) else (cambiumref01_Put.j0 k a1 a2 y115 (decide (a2 > 8))))) else (none))
theorem cambiumref01_Put.mono_l : ∀ k, (∀ y0 y1 y2 y3, LeO (cambiumref01_Put.j0 k y0 y1 y2 y3) (cambiumref01_Put.j0 (k + 1) y0 y1 y2 y3)) ∧ (∀ y0 y1 y2, LeO (cambiumref01_Put.l0 k y0 y1 y2) (cambiumref01_Put.l0 (k + 1) y0 y1 y2))
  | 0 => ⟨fun _ _ _ _ r h => by simp [cambiumref01_Put.j0] at h, fun _ _ _ r h => by simp [cambiumref01_Put.l0] at h⟩
  | k + 1 => by
    obtain ⟨ih0, ih1⟩ := cambiumref01_Put.mono_l k
    refine ⟨?_, ?_⟩
    · intro y0 y1 y2 y3
      unfold cambiumref01_Put.j0
      repeat' first
      | (with_reducible exact ih0 _ _ _ _)
      | (with_reducible exact ih1 _ _ _)
      | (with_reducible exact LeO.refl _)
      | (with_reducible exact LeO.none _)
      | (with_reducible refine LeO.ite ?_ ?_)
      | (with_reducible refine LeO.bind ?_ (fun _ => ?_))
      | exact ih0 _ _ _ _
      | exact ih1 _ _ _
      | exact LeO.none _
      | refine LeO.ite ?_ ?_
      | refine LeO.bind ?_ (fun _ => ?_)
    · intro y0 y1 y2
      unfold cambiumref01_Put.l0
      repeat' first
      | (with_reducible exact ih0 _ _ _ _)
      | (with_reducible exact ih1 _ _ _)
      | (with_reducible exact LeO.refl _)
      | (with_reducible exact LeO.none _)
      | (with_reducible refine LeO.ite ?_ ?_)
      | (with_reducible refine LeO.bind ?_ (fun _ => ?_))
      | exact ih0 _ _ _ _
      | exact ih1 _ _ _
      | exact LeO.none _
      | refine LeO.ite ?_ ?_
      | refine LeO.bind ?_ (fun _ => ?_)
theorem cambiumref01_Put.mono : ∀ a0 a1 a2 k, LeO (cambiumref01_Put.f k a0 a1 a2) (cambiumref01_Put.f (k + 1) a0 a1 a2) := by
  intro a0 a1 a2 k
  obtain ⟨ih0, ih1⟩ := cambiumref01_Put.mono_l k
  unfold cambiumref01_Put.f
  repeat' first
      | (with_reducible exact ih0 _ _ _ _)
      | (with_reducible exact ih1 _ _ _)
      | (with_reducible exact LeO.refl _)
      | (with_reducible exact LeO.none _)
      | (with_reducible refine LeO.ite ?_ ?_)
      | (with_reducible refine LeO.bind ?_ (fun _ => ?_))
      | exact ih0 _ _ _ _
      | exact ih1 _ _ _
      | exact LeO.none _
      | refine LeO.ite ?_ ?_
      | refine LeO.bind ?_ (fun _ => ?_)
set_option maxHeartbeats 8000000 in
set_option maxRecDepth 100000 in
theorem cambiumref01_Put.calls (k : Nat) (A0 : Option Addr) (c0 : Nat) (l0 : List Int) (a1 : Int) (a2 : Int) (r : List Int) (w : World) (hr0 : Kd.C (Kd.int .u8) w A0 l0.length l0) (hc0 : l0.length ≤ c0) (h : cambiumref01_Put.f k l0 a1 a2 = some r) :
    Calls Try.prog 12 #[.slice A0 l0.length c0, .int .i64 a1, .int .i64 a2] w fun e w' => ∃ v0_ : Value, e = .returned (v0_) ∧ Kd.R (Kd.int .u8) 5 w' w.heap.size (fun _ => True) v0_ r ∧ Below w.heap.size w w' := by
  have HR0 := Aside0.mk hr0
  have HC0 := Aside0.mk hc0
  clear hr0 hc0
  have HB := Aside0.mk (Below.refl w.heap.size w)
  have H : ((some (([] : List Int) : List Int)).bind fun y112 => (if y112.length + l0.length < 140737488355328 then ((some (y112 ++ l0 : List Int)).bind fun y115 => (if a2 < 1 then (cambiumref01_Put.j0 k a1 a2 y115 true) else (cambiumref01_Put.j0 k a1 a2 y115 (decide (a2 > 8))))) else (none))) = some r := h
  clear h
  obtain ⟨y112, hy112⟩ : ∃ y_ : List Int, y_ = (([] : List Int)) := ⟨_, rfl⟩
  replace H : (if y112.length + l0.length < 140737488355328 then ((some (y112 ++ l0 : List Int)).bind fun y115 => (if a2 < 1 then (cambiumref01_Put.j0 k a1 a2 y115 true) else (cambiumref01_Put.j0 k a1 a2 y115 (decide (a2 > 8))))) else (none)) = some r := by first | (rw [hy112]; with_reducible exact H) | (have H2_ := (Option.bind_some _ _).symm.trans H; rw [hy112]; with_reducible exact H2_) | (have H2_ := (Option.bind_some _ _).symm.trans H; with_reducible exact H2_) | with_reducible exact H | (rw [hy112]; exact H) | exact H
  have Ny112 := Aside0.mk hy112
  clear hy112
  by_cases c4 : y112.length + l0.length < 140737488355328
  · rw [if_pos c4] at H
    have LMc4 := Aside0.mk c4
    clear c4
    obtain ⟨y115, hy115⟩ : ∃ y_ : List Int, y_ = (y112 ++ l0) := ⟨_, rfl⟩
    replace H : (if a2 < 1 then (cambiumref01_Put.j0 k a1 a2 y115 true) else (cambiumref01_Put.j0 k a1 a2 y115 (decide (a2 > 8)))) = some r := by first | (rw [hy115]; with_reducible exact H) | (have H2_ := (Option.bind_some _ _).symm.trans H; rw [hy115]; with_reducible exact H2_) | (have H2_ := (Option.bind_some _ _).symm.trans H; with_reducible exact H2_) | with_reducible exact H | (rw [hy115]; exact H) | exact H
    have Ny115 := Aside0.mk hy115
    clear hy115
    have HC5 := Aside0.mk H
    clear H
    go_enter Try.func12, Try.ntmps12
    go_upto_region 2 with (first | ((with_reducible refine gate_dst (N := 9) rfl ?_); refine Kd.R_lit (Kd.int .u8) _ 5 ?hg (N := 9) ?hd (xs := ([] : List Int)) (inner := []) (ok := fun _ => True) (okp := fun _ => True) ?hr ?hp (fun _ hk => hk) trivial (Below.refl _ _) (Nat.le_refl _) (by simp) ?_; (case hd => rfl); (case hg => rfl); (case hr => first | (go_simp; done) | (go_simp; rfl)); (case hp => exact (Reps.none _ _)); intro v113 w6 ho7 hb hg_ hnew_; clear hg_ hnew_; (first | rw [← Ny112.out] at ho7 | (simp only [Int.reduceToNat] at ho7; rw [← Ny112.out] at ho7)); have n0_ := Aside0.mk (Kd.R_lower ho7 (below_size (by repeat (first | (with_reducible first | exact HB.out | apply below_alloc | apply pw_below_drewN | apply below_drew1) | exact HB.out)))); have n1_ := Aside0.mk (below_step (by repeat (first | (with_reducible first | exact HB.out | apply below_alloc | apply pw_below_drewN | apply below_drew1) | exact HB.out)) hb); clear HB; have HO114 := n0_; have HB := n1_; clear n0_ n1_; clear hb ho7) | ((with_reducible refine gate_builtin (b := .append) (xs := #[.tmp 9, .tmp 10]) rfl ?_); at_builtin; refine Kd.R_append_rows (Kd.int .u8) (w0 := w) w.heap.size rfl (.tmp 9) (.tmp 10) 22 5 (.int .u8 0) 1 rfl Try.underlying22 info5 rfl (by decide) (by omega) v113 y112 l0 _ _ _ (fun _ => True) (fun _ => False) rfl rfl ?aO ?aR (fun _ _ h => h) (fun _ h => h.elim) ?aF ?aB ?aS ?aL ?_; (case aR => repeat (first | exact (Kd.C_below HR0.out HB.out) | (with_reducible refine Kd.C_alloc ?_ _) | (with_reducible refine Kd.C_drewN ?_ _) | (with_reducible refine Kd.C_drew ?_))); (case aB => exact (by repeat (first | (with_reducible first | exact HB.out | apply below_alloc | apply pw_below_drewN | apply below_drew1) | exact HB.out))); (case aF => exact (fun _ _ => trivial)); (case aO => exact (by (with_reducible repeat (first | apply Kd.R_alloc | apply Kd.R_drewN | apply Kd.R_drew)); exact HO114.out)); (case aS => exact (below_size (by repeat (first | (with_reducible first | exact HB.out | apply below_alloc | apply pw_below_drewN | apply below_drew1) | exact HB.out)))); (case aL => have := LMc4.out; omega); intro v116 w8 ho hb hg hat; rw [← Ny115.out] at ho; have n0_ := Aside0.mk (hb); have n1_ := Aside0.mk (ho); clear HB; clear HO114; have HB := n0_; have HO117 := n1_; clear n0_ n1_; clear ho hb hg hat))
    (try simp only [Act.put, List.setIfInBounds_toArray, List.set_cons_zero, List.set_cons_succ])
    go_cut [17] (fun v17 wc => ∃ (kq : Nat) (x17_4 : Bool), v17 = .bool x17_4 ∧ Aside0 (cambiumref01_Put.j0 kq a1 a2 y115 x17_4 = some r) ∧ Aside0 (kq ≤ k) ∧ Aside0 (Kd.R (Kd.int .u8) 5 wc w.heap.size (fun _ => True) v116 y115) ∧ Aside0 (Below w.heap.size w wc))
    case first =>
      have H := HC5.out
      clear HC5
      by_cases c9 : a2 < 1
      · rw [if_pos c9] at H
        have c9b0 : decide (a2 < 1) = true := decide_eq_true c9
        clear c9
        (first | rw [c9b0] | (simp only [i64_w, i32_w]; rw [c9b0]) | skip)
        have H' := Aside0.mk H
        clear H
        go_wp2
        go_meet
        case rel => exact ⟨_, (true), (by first | rfl | (simp; done) | (simp [*]; done)), H', ⟨by first | omega | exact Nat.le_refl _⟩, ⟨by (with_reducible repeat (first | apply Kd.R_alloc | apply Kd.R_drewN | apply Kd.R_drew)); exact HO117.out⟩, ⟨by repeat (first | (with_reducible first | exact HB.out | apply below_alloc | apply pw_below_drewN | apply below_drew1) | exact HB.out)⟩⟩
      · rw [if_neg c9] at H
        have c9b0 : decide (a2 < 1) = false := decide_eq_false c9
        clear c9
        (first | rw [c9b0] | (simp only [i64_w, i32_w]; rw [c9b0]) | skip)
        have H' := Aside0.mk H
        clear H
        go_wp2
        go_meet
        case rel => exact ⟨_, (decide (a2 > 8)), (by first | rfl | (simp; done) | (simp [*]; done)), H', ⟨by first | omega | exact Nat.le_refl _⟩, ⟨by (with_reducible repeat (first | apply Kd.R_alloc | apply Kd.R_drewN | apply Kd.R_drew)); exact HO117.out⟩, ⟨by repeat (first | (with_reducible first | exact HB.out | apply below_alloc | apply pw_below_drewN | apply below_drew1) | exact HB.out)⟩⟩
    case rest =>
      clear HC5
      try clear c1
      try clear p2
      try clear c4
      try clear c9
      try clear c9b0
      obtain ⟨kq, x17_4, rfl, HA, HJ4, HO_7, HB⟩ := hcut
      cases kq with
      | zero => exact absurd HA.out (by simp [cambiumref01_Put.j0])
      | succ kj4 =>
        have H := HA.out
        clear HA
        simp only [cambiumref01_Put.j0] at H
        by_cases c10 : x17_4 = true
        · subst c10
          have H1 : (some y115) = some r := by rw [if_pos rfl] at H; exact H
          clear H
          have H := H1
          clear H1
          obtain rfl := Option.some.inj H
          go_wp2
          go_ret
          exact ⟨_, by first | rfl | (simp [errW_none, errW_some] <;> rfl) | (simp [*, errW_none, errW_some] <;> rfl), by (with_reducible repeat (first | apply Kd.R_alloc | apply Kd.R_drewN | apply Kd.R_drew)); exact HO_7.out, by repeat (first | (with_reducible first | exact HB.out | apply below_alloc | apply pw_below_drewN | apply below_drew1) | exact HB.out)⟩
        · replace c10 := Bool.eq_false_iff.mpr c10
          subst c10
          have H1 : (cambiumref01_Put.l0 kj4 a1 y115 (wrap64 (a2 - 1))) = some r := by rw [if_neg (show ¬ (false = true) by decide)] at H; exact H
          clear H
          have H := H1
          clear H1
          have H' := Aside0.mk H
          clear H
          go_wp2
          go_loopg [7, 8] kj4 (fun kq v7 v8 w' => ∃ (x7_2 : List Int) (x8_2 : Int), v8 = .int .i64 x8_2 ∧ Aside0 (cambiumref01_Put.l0 kq a1 x7_2 x8_2 = some r) ∧ Aside0 (kq ≤ kj4) ∧ Aside0 (Kd.R (Kd.int .u8) 5 w' w.heap.size (fun _ => True) v7 x7_2) ∧ Aside0 (Below w.heap.size w w'))
          case atStart => exact ⟨(y115), (wrap64 (a2 - 1)), (by first | rfl | (simp; done) | (simp [*]; done)), H', ⟨Nat.le_refl _⟩, ⟨by (with_reducible repeat (first | apply Kd.R_alloc | apply Kd.R_drewN | apply Kd.R_drew)); exact HO_7.out⟩, ⟨by repeat (first | (with_reducible first | exact HB.out | apply below_alloc | apply pw_below_drewN | apply below_drew1) | exact HB.out)⟩⟩
          case round =>
            clear H'
            try clear c1
            try clear p2
            try clear c4
            try clear p6
            try clear c9
            try clear c9b0
            try clear c10
            try clear p2
            obtain ⟨x7_2, x8_2, rfl, HA, HK2, HO_7, HB⟩ := hrel
            cases gk with
            | zero => exact absurd HA.out (by simp [cambiumref01_Put.l0])
            | succ k2 =>
              have H := HA.out
              clear HA
              simp only [cambiumref01_Put.l0] at H
              by_cases c11 : x8_2 ≥ 0
              · rw [if_pos c11] at H
                have c11b0 : decide (0 ≤ x8_2) = true := decide_eq_true c11
                clear c11
                obtain ⟨ji12, hji12⟩ : ∃ j_ : Int, (wrap64 (8 * x8_2)) = j_ := ⟨_, rfl⟩
                replace H : (if 0 ≤ (ji12) then (if x7_2.length < 140737488355328 then (cambiumref01_Put.l0 k2 a1 (x7_2 ++ [(shr .u64 (IntKind.u64.wrap (a1)) (ji12)) % 256]) (wrap64 (x8_2 - 1))) else (none)) else (none)) = some r := by first | (rw [hji12] at H; exact H) | (simp only [hji12] at H ⊢; exact H)
                have hji12w : (IntKind.i64.wrap (8 * x8_2)) = ji12 := (i64_w _).trans hji12
                by_cases c13 : 0 ≤ (ji12)
                · rw [if_pos c13] at H
                  have c13b0 := eq_true c13
                  have c13b1 : decide (0 ≤ (ji12)) = true := decide_eq_true c13
                  clear c13
                  obtain ⟨ji14, hji14⟩ : ∃ j_ : Int, (shr .u64 (IntKind.u64.wrap (a1)) (ji12)) = j_ := ⟨_, rfl⟩
                  replace H : (if x7_2.length < 140737488355328 then (cambiumref01_Put.l0 k2 a1 (x7_2 ++ [(ji14) % 256]) (wrap64 (x8_2 - 1))) else (none)) = some r := by first | (rw [hji14] at H; exact H) | (simp only [hji14] at H ⊢; exact H)
                  have hji14_ : ((IntKind.u64.wrap (a1)) / 2 ^ min (ji12).toNat 64) = ji14 := hji14
                  have hji14z : (ji12) ≤ 64 → ((IntKind.u64.wrap (a1)) / 2 ^ (ji12).toNat) = ji14 := shr_small hji14
                  by_cases c15 : x7_2.length < 140737488355328
                  · rw [if_pos c15] at H
                    have LMc15 := Aside0.mk c15
                    clear c15
                    obtain ⟨y118, hy118⟩ : ∃ y_ : List Int, y_ = (x7_2 ++ [(ji14) % 256]) := ⟨_, rfl⟩
                    replace H : (cambiumref01_Put.l0 k2 a1 y118 (wrap64 (x8_2 - 1))) = some r := by first | (rw [hy118]; with_reducible exact H) | (have H2_ := (Option.bind_some _ _).symm.trans H; rw [hy118]; with_reducible exact H2_) | (have H2_ := (Option.bind_some _ _).symm.trans H; with_reducible exact H2_) | with_reducible exact H | (rw [hy118]; exact H) | exact H
                    have Ny118 := Aside0.mk hy118
                    clear hy118
                    have H' := Aside0.mk H
                    clear H
                    go_wp2_with (first | ((with_reducible refine gate_builtin (b := .append) (xs := #[.tmp 25, .tmp 32]) rfl ?_); at_builtin; refine Kd.R_append (Kd.int .u8) (w0 := w) w.heap.size rfl (.tmp 25) (.tmp 32) 22 5 (.int .u8 0) 1 rfl Try.underlying22 info5 rfl (by decide) (by omega) u7 x7_2 ((ji14) % 256) [.int .u8 ((ji14) % 256)] (fun _ => True) (fun _ => False) rfl rfl ?aP (fun _ hk => hk.elim) ?aF ?aO ?aB ?aS ?aL ?_; (case aP => exact rfl); (case aB => exact (by repeat (first | (with_reducible first | exact HB.out | apply below_alloc | apply pw_below_drewN | apply below_drew1) | exact HB.out))); (case aF => exact (fun _ _ => trivial)); (case aO => exact (by (with_reducible repeat (first | apply Kd.R_alloc | apply Kd.R_drewN | apply Kd.R_drew)); exact HO_7.out)); (case aS => exact (below_size (by repeat (first | (with_reducible first | exact HB.out | apply below_alloc | apply pw_below_drewN | apply below_drew1) | exact HB.out)))); (case aL => have := LMc15.out; omega); intro v119 w16 ho hb hg hat; rw [← Ny118.out] at ho; have n0_ := Aside0.mk (hb); have n1_ := Aside0.mk (ho); clear HB; clear HO_7; have HB := n0_; have HO120 := n1_; clear n0_ n1_; clear ho hb hg hat))
                    go_roundg k2
                    case measure => have := HJ4.out; have := HK2.out; omega
                    case rel => exact ⟨(y118), (wrap64 (x8_2 - 1)), (by first | rfl | (simp; done) | (simp [*]; done)), H', ⟨by have := HJ4.out; have := HK2.out; omega⟩, ⟨by (with_reducible repeat (first | apply Kd.R_alloc | apply Kd.R_drewN | apply Kd.R_drew)); exact HO120.out⟩, ⟨by repeat (first | (with_reducible first | exact HB.out | apply below_alloc | apply pw_below_drewN | apply below_drew1) | exact HB.out)⟩⟩
                  · rw [if_neg c15] at H
                    exact absurd H (by simp)
                · rw [if_neg c13] at H
                  exact absurd H (by simp)
              · rw [if_neg c11] at H
                have c11b0 : decide (0 ≤ x8_2) = false := decide_eq_false c11
                clear c11
                obtain rfl := Option.some.inj H
                go_wp2
                go_ret
                exact ⟨_, by first | rfl | (simp [errW_none, errW_some] <;> rfl) | (simp [*, errW_none, errW_some] <;> rfl), by (with_reducible repeat (first | apply Kd.R_alloc | apply Kd.R_drewN | apply Kd.R_drew)); exact HO_7.out, by repeat (first | (with_reducible first | exact HB.out | apply below_alloc | apply pw_below_drewN | apply below_drew1) | exact HB.out)⟩
  · rw [if_neg c4] at H
    exact absurd H (by simp)

/-! ### cambiumref01_put: function 25 -/
def cambiumref01_put.f (k : Nat) (l0 : List Int) (l1 : List Int) (a2 : Int) (a3 : Int) : Option (List Int × Int) := if (l1.length : Int) > a3 then (some (([] : List Int), 7)) else ((cambiumref01_Put.f k l0 (l1.length : Int) a2).bind fun t121 => (if t121.length + l1.length < 140737488355328 then (some ((t121 ++ l1), 0)) else (none)))
theorem cambiumref01_put.mono : ∀ a0 a1 a2 a3 k, LeO (cambiumref01_put.f k a0 a1 a2 a3) (cambiumref01_put.f (k + 1) a0 a1 a2 a3) := by
  intro a0 a1 a2 a3 k
  unfold cambiumref01_put.f
  repeat' first
      | (with_reducible exact cambiumref01_Put.mono _ _ _ _)
      | (with_reducible exact LeO.refl _)
      | (with_reducible exact LeO.none _)
      | (with_reducible refine LeO.ite ?_ ?_)
      | (with_reducible refine LeO.bind ?_ (fun _ => ?_))
      | exact cambiumref01_Put.mono _ _ _ _
      | exact LeO.none _
      | refine LeO.ite ?_ ?_
      | refine LeO.bind ?_ (fun _ => ?_)
set_option maxHeartbeats 8000000 in
set_option maxRecDepth 100000 in
theorem cambiumref01_put.calls (k : Nat) (A0 : Option Addr) (c0 : Nat) (l0 : List Int) (A1 : Option Addr) (c1 : Nat) (l1 : List Int) (a2 : Int) (a3 : Int) (r1 : List Int) (r2 : Int) (w : World) (hr0 : Kd.C (Kd.int .u8) w A0 l0.length l0) (hc0 : l0.length ≤ c0) (hr1 : Kd.C (Kd.int .u8) w A1 l1.length l1) (hc1 : l1.length ≤ c1) (h : cambiumref01_put.f k l0 l1 a2 a3 = some (r1, r2)) :
    Calls Try.prog 25 #[.slice A0 l0.length c0, .slice A1 l1.length c1, .int .i64 a2, .int .i64 a3] w fun e w' => ∃ v0_ : Value, e = .returned (.tuple #[v0_, .int .i64 r2]) ∧ Kd.R (Kd.int .u8) 5 w' w.heap.size (fun _ => True) v0_ r1 ∧ Below w.heap.size w w' := by
  have HR0 := Aside0.mk hr0
  have HC0 := Aside0.mk hc0
  clear hr0 hc0
  have HR1 := Aside0.mk hr1
  have HC1 := Aside0.mk hc1
  clear hr1 hc1
  have HB := Aside0.mk (Below.refl w.heap.size w)
  have H : (if (l1.length : Int) > a3 then (some (([] : List Int), 7)) else ((cambiumref01_Put.f k l0 (l1.length : Int) a2).bind fun t121 => (if t121.length + l1.length < 140737488355328 then (some ((t121 ++ l1), 0)) else (none)))) = some (r1, r2) := h
  clear h
  by_cases c5 : (l1.length : Int) > a3
  · rw [if_pos c5] at H
    have c5b0 : decide (a3 < (l1.length : Int)) = true := decide_eq_true c5
    clear c5
    simp only [Option.some.injEq, Prod.mk.injEq] at H
    obtain ⟨rfl, rfl⟩ := H
    go_enter Try.func25, Try.ntmps25
    go_wp2
    go_ret2
    exact ⟨_, by first | rfl | (simp [errW_none, errW_some] <;> rfl) | (simp [*, errW_none, errW_some] <;> rfl), by first | exact Kd.R_nil _ _ _ _ _ | exact Kd.N_nil _ _ _ _ _ | exact Kd.V_nil _ _ _ _ _ | exact Kd.Q_nil _ _ _ _ _ | exact Kd.S_nil _ _ _ _ _, by repeat (first | (with_reducible first | exact HB.out | apply below_alloc | apply pw_below_drewN | apply below_drew1) | exact HB.out)⟩
  · rw [if_neg c5] at H
    have c5b0 : decide (a3 < (l1.length : Int)) = false := decide_eq_false c5
    clear c5
    replace H := Option.bind_eq_some_iff.mp H
    obtain ⟨t121, A60, H⟩ := H
    replace H : (if t121.length + l1.length < 140737488355328 then (some ((t121 ++ l1), 0)) else (none)) = some (r1, r2) := H
    have A6 := Aside0.mk A60
    clear A60
    by_cases c7 : t121.length + l1.length < 140737488355328
    · rw [if_pos c7] at H
      have LMc7 := Aside0.mk c7
      clear c7
      obtain ⟨y124, hy124⟩ : ∃ y_ : List Int, y_ = (t121 ++ l1) := ⟨_, rfl⟩
      replace H : (some (y124, 0)) = some (r1, r2) := by first | (rw [hy124]; with_reducible exact H) | (have H2_ := (Option.bind_some _ _).symm.trans H; rw [hy124]; with_reducible exact H2_) | (have H2_ := (Option.bind_some _ _).symm.trans H; with_reducible exact H2_) | with_reducible exact H | (rw [hy124]; exact H) | exact H
      have Ny124 := Aside0.mk hy124
      clear hy124
      simp only [Option.some.injEq, Prod.mk.injEq] at H
      obtain ⟨rfl, rfl⟩ := H
      go_enter Try.func25, Try.ntmps25
      go_wp2_with (first | ((with_reducible refine gate_callee (f := 12) rfl ?_); refine goesL_ (some 18) rfl rfl Try.func12 (by kernel_rfl) rfl #[.slice A0 l0.length c0, .int .i64 (l1.length : Int), .int .i64 a2] rfl (by (try simp only [List.map_toArray, List.map_cons, List.map_nil]); first | done | rfl | (simp only [List.length_drop, List.length_take]; rfl)) ?_; (with_reducible refine (cambiumref01_Put.calls k _ _ l0 (l1.length : Int) a2 t121 _ ?side1 ?side2 A6.out).mono ?_); (case side1 => repeat (first | exact HR0.out | (with_reducible refine Kd.C_alloc ?_ _) | (with_reducible refine Kd.C_drewN ?_ _) | (with_reducible refine Kd.C_drew ?_))); (case side2 => exact HC0.out); rintro e w8 ⟨v122, rfl, ho0, hb⟩; refine ⟨_, rfl, ?_⟩; have n0_ := Aside0.mk (Kd.R_lower ho0 (below_size (by repeat (first | (with_reducible first | exact HB.out | apply below_alloc | apply pw_below_drewN | apply below_drew1) | exact HB.out)))); have n1_ := Aside0.mk (below_step (by repeat (first | (with_reducible first | exact HB.out | apply below_alloc | apply pw_below_drewN | apply below_drew1) | exact HB.out)) hb); clear HB; have HO123 := n0_; have HB := n1_; clear n0_ n1_; (try clear hb); (try clear hb2); (try clear hk); (try clear hi); (try clear ho0)) | ((with_reducible refine gate_builtin (b := .append) (xs := #[.tmp 18, .tmp 19]) rfl ?_); at_builtin; refine Kd.R_append_rows (Kd.int .u8) (w0 := w) w.heap.size rfl (.tmp 18) (.tmp 19) 22 5 (.int .u8 0) 1 rfl Try.underlying22 info5 rfl (by decide) (by omega) v122 t121 l1 _ _ _ (fun _ => True) (fun _ => False) rfl rfl ?aO ?aR (fun _ _ h => h) (fun _ h => h.elim) ?aF ?aB ?aS ?aL ?_; (case aR => repeat (first | exact (Kd.C_below HR1.out HB.out) | (with_reducible refine Kd.C_alloc ?_ _) | (with_reducible refine Kd.C_drewN ?_ _) | (with_reducible refine Kd.C_drew ?_))); (case aB => exact (by repeat (first | (with_reducible first | exact HB.out | apply below_alloc | apply pw_below_drewN | apply below_drew1) | exact HB.out))); (case aF => exact (fun _ _ => trivial)); (case aO => exact (by (with_reducible repeat (first | apply Kd.R_alloc | apply Kd.R_drewN | apply Kd.R_drew)); exact HO123.out)); (case aS => exact (below_size (by repeat (first | (with_reducible first | exact HB.out | apply below_alloc | apply pw_below_drewN | apply below_drew1) | exact HB.out)))); (case aL => have := LMc7.out; omega); intro v125 w9 ho hb hg hat; rw [← Ny124.out] at ho; have n0_ := Aside0.mk (hb); have n1_ := Aside0.mk (ho); clear HB; clear HO123; have HB := n0_; have HO126 := n1_; clear n0_ n1_; clear ho hb hg hat))
      go_ret2
      exact ⟨_, by first | rfl | (simp [errW_none, errW_some] <;> rfl) | (simp [*, errW_none, errW_some] <;> rfl), by (with_reducible repeat (first | apply Kd.R_alloc | apply Kd.R_drewN | apply Kd.R_drew)); exact HO126.out, by repeat (first | (with_reducible first | exact HB.out | apply below_alloc | apply pw_below_drewN | apply below_drew1) | exact HB.out)⟩
    · rw [if_neg c7] at H
      exact absurd H (by simp)

end Go.Proofs.Ytimnbcblejcmcaa.P
