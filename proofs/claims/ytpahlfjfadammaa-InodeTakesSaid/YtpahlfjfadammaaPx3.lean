/- Functions and contracts, written by a program (mkprint.py, a wrapper of ours around the print); texts between GIVEN marks are ours. -/
import Derived.Test.YtpahlfjfadammaaPx0
namespace Go.Proofs.Ytpahlfjfadammaa.P
open Go.RowKit Go.Proofs.YtpahlfjfadammaaW.PrintWords Go.Proofs.YtpahlfjfadammaaW.PrintLast Go.Proofs.YtpahlfjfadammaaW.PrintMore
attribute [local go_sem] max2_int min2_int max_two min_two max_three min_three max_four min_four   -- for this text's walks alone
set_option linter.unusedVariables false
set_option linter.unusedSimpArgs false

/-! ### GIVEN bytes_conv: function 60 -/
/-- A string told as new bytes. -/
def Convs (P : Program) (src dst : TypeId) (v : Value) (w : World) (Q : Ending → World → Prop) : Prop := ∃ x w1, (convert src dst v).run P w = .ok x w1 ∧ Q (.returned x) w1
theorem Convs.mono {P : Program} {src dst : TypeId} {v : Value} {w : World} {Q Q' : Ending → World → Prop} (h : Convs P src dst v w Q) (hq : ∀ e w', Q e w' → Q' e w') : Convs P src dst v w Q' := by
  obtain ⟨x, w1, h1, h2⟩ := h
  exact ⟨x, w1, h1, hq _ _ h2⟩
theorem conv_ {P : Program} {ops : Array Oper} {Q : Exit → Act → World → Prop} {oi : Oper} {N : Option Tmp} {a : Act} {w : World} {K : Act → World → Prop} {src dst : TypeId} {x : Operand} (v : Value) (hw : Region.wanted oi (yielded ops a.tmps) = true) (hN : oi.dst = N) (hop : oi.op = .convert src dst x) (hx : a.eval x = v)
    (h : Convs P src dst v w fun e w' => ∃ v, e = .returned v ∧ K (a.put N v) w') : if Region.wanted oi (yielded ops a.tmps) = true then Oper.wp P oi a w K Q else K (a.put N undef) w := by
  obtain ⟨y, w1, h1, y', hy, hk⟩ := h
  cases hy
  refine value_ hw hN (v := y) (w1 := w1) ?_ hk
  unfold execOp
  simp only [hop, hx]
  go_simp
theorem convL_ {P : Program} {ops : Array Oper} {Q : Exit → Act → World → Prop} {rest : List Oper} {oi : Oper} {a : Act} {w : World} (N : Option Tmp) (hd : oi.dst = N) (hg : oi.guard = none) {src dst : TypeId} {x : Operand} (v : Value) (hop : oi.op = .convert src dst x) (hx : a.eval x = v)
    (h : Convs P src dst v w fun e w' => ∃ v, e = .returned v ∧ wpList P ops Q rest (a.put N v) w') : wpList P ops Q (oi :: rest) a w := by
  obtain ⟨y, w1, h1, y', hy, hk⟩ := h
  cases hy
  refine wpList_plain hg fun K hK => ?_
  unfold Oper.wp
  have hr : (execOp a.eval oi).run P w = .ok (.value y) w1 := by
    unfold execOp
    simp only [hop, hx]
    go_simp
  rw [hr]
  subst hd
  exact hK _ _ hk
theorem upon_conv {P : Program} {o : Oper} {a : Act} {w : World} {next : Act → World → Prop} {Q : Exit → Act → World → Prop} {src dst : TypeId} {v : Value}
    (h : Convs P src dst v w fun e w' => match e with
      | .returned y => next (a.put o.dst y) w'
      | _ => False) : o.upon P a next Q (((convert src dst v).run P w).andThen fun a w' => Result.ok (Next.value a) w') := by
  obtain ⟨y, w1, h1, hk⟩ := h
  rw [h1]
  exact hk
theorem gate_conv {P : Program} {ops : Array Oper} {Q : Exit → Act → World → Prop} {o : Oper} {rest : List Oper} {a : Act} {W : World} {src dst : TypeId} {x : Operand} (_ho : o.op = .convert src dst x) (h : wpList P ops Q (o :: rest) a W) : wpList P ops Q (o :: rest) a W := h
def bytes_conv.f (s : ByteArray) : Option (List Int) := if s.size ≤ 9223372036854775807 then some (bytesOf s) else none
theorem bytes_conv.calls (a0 : ByteArray) (r : List Int) (w : World) (h : bytes_conv.f a0 = some r) :
    Convs Try.prog 9 26 (.string a0) w fun e w' => ∃ v0_ : Value, e = .returned (v0_) ∧ Kd.V (Kd.int .u8) 5 w' w.heap.size (fun k_ => (w.heap.size ≤ k_)) v0_ r ∧ Below w.heap.size w w' := by
  unfold bytes_conv.f at h
  by_cases hs : a0.size ≤ 9223372036854775807
  · rw [if_pos hs] at h
    obtain rfl := Option.some.inj h
    refine ⟨_, _, print_bytes (P := Try.prog) 9 26 5 Try.underlying9 Try.underlying26 Try.underlying5 a0 w, _, rfl, ?_, bytes_below (Below.refl w.heap.size w) (Nat.le_refl _) 5 a0⟩
    have hr := bytes_reads w 5 a0 hs
    refine ⟨some ⟨w.heap.size, 0, none⟩, grownCap w a0.size 0 5, by rw [bytesOf_length], by rw [bytesOf_length]; exact grownCap_ge w a0.size 0 5, ?_⟩
    intro W' hW
    refine Kd.C_of_reads (d := (0 : Int)) (h1 := fun _ => rfl) ?_
    rw [bytesOf_length]
    refine ⟨hr.1, hr.2.1, fun hn => ?_⟩
    obtain ⟨ad, he, hc⟩ := hr.2.2 hn
    cases he
    refine ⟨_, rfl, fun j hj => ?_⟩
    rw [← hc j hj, add_plain]
    have hb := hW w.heap.size (Nat.le_refl _) (by rw [Lib.bytesWorld_size]; omega)
    unfold World.cell?
    simp only [hb]
  · rw [if_neg hs] at h
    cases h
/-! ### end of GIVEN -/
/-! ### inode_told: function 26 -/
def inode_told.f (l0 : List Int) (a1 : Bool) : Option (List Int × Int) := if a1 = true then (some (l0, 0)) else (some (([] : List Int), 1))
set_option maxHeartbeats 8000000 in
set_option maxRecDepth 100000 in
theorem inode_told.calls (P0_ : Nat → Prop) (A0 : Option Addr) (c0 : Nat) (l0 : List Int) (a1 : Bool) (r1 : List Int) (r2 : Int) (w : World) (hs0 : Kd.V (Kd.int .u8) 5 w w.heap.size (fun k_ => P0_ k_) (.slice A0 l0.length c0) l0) (h : inode_told.f l0 a1 = some (r1, r2)) :
    Calls Try.prog 26 #[.slice A0 l0.length c0, .bool a1] w fun e w' => ∃ v0_ : Value, e = .returned (.tuple #[v0_, .int .i64 r2]) ∧ Kd.V (Kd.int .u8) 5 w' w.heap.size (fun k_ => (P0_ k_ ∨ w.heap.size ≤ k_)) v0_ r1 ∧ Below w.heap.size w w' := by
  have HO0 := Aside0.mk (show Kd.V (Kd.int .u8) 5 w w.heap.size (fun k_ => (P0_ k_ ∨ w.heap.size ≤ k_)) (.slice A0 l0.length c0) l0 from Kd.V_mono hs0 (fun k_ hk => .inl hk))
  have HB := Aside0.mk (Below.refl w.heap.size w)
  have H : (if a1 = true then (some (l0, 0)) else (some (([] : List Int), 1))) = some (r1, r2) := h
  clear h
  by_cases c3 : a1 = true
  · subst c3
    have H1 : (some (l0, 0)) = some (r1, r2) := by rw [if_pos rfl] at H; exact H
    clear H
    have H := H1
    clear H1
    simp only [Option.some.injEq, Prod.mk.injEq] at H
    obtain ⟨rfl, rfl⟩ := H
    go_enter Try.func26, Try.ntmps26
    go_wp2
    go_ret2
    exact ⟨_, by first | rfl | (simp [errW_none, errW_some] <;> rfl) | (simp [*, errW_none, errW_some] <;> rfl), by (with_reducible repeat (first | apply Kd.V_alloc | apply Kd.V_drewN | apply Kd.V_drew)); exact HO0.out, by repeat (first | (with_reducible first | exact HB.out | apply below_alloc | apply pw_below_drewN | apply below_drew1) | exact HB.out)⟩
  · replace c3 := Bool.eq_false_iff.mpr c3
    subst c3
    have H1 : (some (([] : List Int), 1)) = some (r1, r2) := by rw [if_neg (show ¬ (false = true) by decide)] at H; exact H
    clear H
    have H := H1
    clear H1
    simp only [Option.some.injEq, Prod.mk.injEq] at H
    obtain ⟨rfl, rfl⟩ := H
    go_enter Try.func26, Try.ntmps26
    go_wp2
    go_ret2
    exact ⟨_, by first | rfl | (simp [errW_none, errW_some] <;> rfl) | (simp [*, errW_none, errW_some] <;> rfl), (Kd.V_nil _ _ _ _ _), by repeat (first | (with_reducible first | exact HB.out | apply below_alloc | apply pw_below_drewN | apply below_drew1) | exact HB.out)⟩

/-! ### GIVEN slices_Grow_byte_byte: function 43 -/
/-- slices.Grow of nil: an empty row with room. -/
theorem slices_Grow.nil (n : Int) (h0 : 0 ≤ n) (hn : n ≤ 140737488355328) (w : World) :
    Calls Try.prog 43 #[.slice none 0 0, .int .i64 n] w fun e w' => ∃ v, e = .returned v ∧ Kd.R (Kd.int .u8) 5 w' w.heap.size (fun _ => True) v [] ∧ Below w.heap.size w w' := by
  by_cases hz : n = 0
  · subst hz
    go_enter Try.func43, Try.ntmps43
    go_wp2
    go_ret
    exact ⟨_, rfl, Kd.R_nil _ _ _ _ _, Below.refl _ _⟩
  · have hpos : 0 < n := by omega
    clear hz
    go_enter Try.func43, Try.ntmps43
    go_wp2_with (first | (refine Kd.R_append_zeros (Kd.int .u8) (w0 := w) w.heap.size rfl (.tmp 20) (.tmp 21) 26 3 5 (.int .u8 0) 1 rfl Try.underlying26 Try.underlying3 info5 rfl (by decide) (by omega) (.slice none 0 0) [] 0 n (fun _ => True) rfl rfl rfl (fun _ _ => trivial) (Kd.R_nil _ _ _ _ _) h0 (Below.refl _ _) (Nat.le_refl _) (by simp; omega) ?_; intro v1 w1 ho hb _ _; have HO := Aside0.mk ho; have HB := Aside0.mk hb; clear ho hb; obtain ⟨A1, c1, he1⟩ := Kd.R_slice HO.out; subst he1; obtain ⟨i0, hi0, _, hs0, _⟩ := info_parts info5; have hcut := cut_to (P := Try.prog) 26 5 .i64 Try.underlying26 hi0 A1 _ c1 0 (by omega) (by omega) (Kd.R_reads' HO.out).2.1))
    go_ret
    exact ⟨_, rfl, Kd.R_take (m := 0) HO.out (Nat.zero_le _), HB.out⟩
/-! ### end of GIVEN -/
/-! ### GIVEN slices_Concat_byte_byte: function 42 -/
/-- A row of rows that is read: its element k. -/
theorem rows_at {α : Type} {d : Kd α} {e : Nat} {w : World} {A : Option Addr} {n : Nat} {ls : List (List α)} (h : Kd.C (Kd.slice e d) w A n ls) (k : Nat) (hk : k < ls.length) :
    ∃ ad A' c', A = some ad ∧ w.cell? (ad.add k) = some (.slice A' ls[k].length c') ∧ ls[k].length ≤ c' ∧ Kd.C d w A' ls[k].length ls[k] := by
  obtain ⟨hl, _, hc⟩ := h
  obtain ⟨ad, he, hg⟩ := hc (by omega)
  obtain ⟨cs, h1, ⟨A', c', rfl, h2, h3⟩, h4⟩ := hg k ls[k] (List.getElem?_eq_getElem hk)
  refine ⟨ad, A', c', he, ?_, h2, h3⟩
  have := h4 0 _ rfl
  simpa [Kd.slice] using this
def lensum (ls : List (List Int)) : Nat := (ls.map List.length).sum
theorem lensum_append (a b : List (List Int)) : lensum (a ++ b) = lensum a + lensum b := by simp [lensum]
theorem lensum_take (ls : List (List Int)) (k : Nat) (h : k < ls.length) : lensum (ls.take (k + 1)) = lensum (ls.take k) + ls[k].length := by
  rw [List.take_succ_eq_append_getElem h, lensum_append]
  rfl
theorem lensum_le (ls : List (List Int)) (k : Nat) : lensum (ls.take k) ≤ lensum ls := by
  have h : lensum ls = lensum (ls.take k) + lensum (ls.drop k) := by rw [← lensum_append, List.take_append_drop]
  omega
theorem flatten_take (ls : List (List Int)) (k : Nat) (h : k < ls.length) : (ls.take (k + 1)).flatten = (ls.take k).flatten ++ ls[k] := by
  rw [List.take_succ_eq_append_getElem h, List.flatten_append, List.flatten_singleton]
theorem flatten_len (ls : List (List Int)) : ls.flatten.length = lensum ls := by simp [lensum, List.length_flatten]
set_option maxHeartbeats 1000000 in
theorem slices_Concat.calls (A : Option Addr) (c : Nat) (ls : List (List Int)) (w : World) (hr : Kd.C (Kd.slice 5 (Kd.int .u8)) w A ls.length ls) (hl : lensum ls ≤ 140737488355328) :
    Calls Try.prog 42 #[.slice A ls.length c] w fun e w' => ∃ v, e = .returned v ∧ Kd.R (Kd.int .u8) 5 w' w.heap.size (fun _ => True) v ls.flatten ∧ Below w.heap.size w w' := by
  have HR := Aside0.mk hr
  have HM := Aside0.mk hr.2.1
  have HL := Aside0.mk hl
  clear hr hl
  go_enter Try.func42, Try.ntmps42
  go_wp2
  go_loop [3, 11] (fun s i => ∃ k : Nat, k ≤ ls.length ∧ i = .int .i64 k ∧ s = .int .i64 (lensum (ls.take k) : Nat)) (fun _ i => ls.length - (intOf i).toNat)
  case atStart => exact ⟨0, by omega, rfl, rfl⟩
  case round =>
    obtain ⟨k, hk, rfl, rfl⟩ := hrel
    have hm := HM.out
    have hs1 : lensum (ls.take k) ≤ 140737488355328 := Nat.le_trans (lensum_le ls k) HL.out
    by_cases hlt : k < ls.length
    · have hs2 : lensum (ls.take k) + ls[k].length ≤ 140737488355328 := by rw [← lensum_take ls k hlt]; exact Nat.le_trans (lensum_le ls (k + 1)) HL.out
      have HS := Aside0.mk (lensum_take ls k hlt)
      obtain ⟨ad, A1, c1, rfl, hcell, hc1, hC⟩ := rows_at HR.out k hlt
      have HC := Aside0.mk hC
      clear hC
      go_wp2
      go_round
      case rel => exact ⟨k + 1, by omega, by go_num, by rw [HS.out]; go_num⟩
      case measure => simp [intOf]; omega
    · obtain rfl : k = ls.length := by omega
      rw [List.take_length] at *
      go_wp2_with (go_at_call 43; refine (slices_Grow.nil _ (by omega) (by omega) _).mono ?_; rintro e w1 ⟨v1, rfl, ho, hb⟩; have HO := Aside0.mk ho; have HB := Aside0.mk hb; clear ho hb)
      go_loopw [6, 27] (fun v i wr => ∃ k : Nat, k ≤ ls.length ∧ i = .int .i64 k ∧ Aside0 (Kd.R (Kd.int .u8) 5 wr w.heap.size (fun _ => True) v (ls.take k).flatten) ∧ Aside0 (Below w.heap.size w wr)) (fun _ i _ => ls.length - (intOf i).toNat)
      case atStart => exact ⟨0, by omega, rfl, HO, HB⟩
      case round =>
        clear HO HB
        obtain ⟨k, hk, rfl, HO, HB⟩ := hrel
        by_cases hlt : k < ls.length
        · obtain ⟨ad, A1, c1, rfl, hcell, hc1, hC⟩ := rows_at (Kd.C_below HR.out HB.out) k hlt
          have HC := Aside0.mk hC
          have HF := Aside0.mk (flatten_take ls k hlt)
          have HS := Aside0.mk (show (ls.take k).flatten.length + ls[k].length ≤ 140737488355328 from by
            rw [flatten_len, ← lensum_take ls k hlt]; exact Nat.le_trans (lensum_le ls (k + 1)) HL.out)
          clear hC
          go_wp2_with (first | ((with_reducible refine gate_builtin (b := .append) (xs := #[.tmp 31, .tmp 32]) rfl ?_); at_builtin; refine Kd.R_append_rows (Kd.int .u8) (w0 := w) w.heap.size rfl (.tmp 31) (.tmp 32) 26 5 (.int .u8 0) 1 rfl Try.underlying26 info5 rfl (by decide) (by omega) _ _ ls[k] _ _ _ (fun _ => True) (fun _ => False) rfl rfl HO.out HC.out (fun _ _ h => h) (fun _ h => h.elim) (fun _ _ => trivial) HB.out HB.out.size (by have := HS.out; omega) ?_; intro v1 w2 ho hb _ _; have HO2 := Aside0.mk ho; have HB2 := Aside0.mk hb; clear ho hb))
          go_roundw
          case rel => exact ⟨k + 1, by omega, by go_num, by rw [HF.out]; exact HO2, HB2⟩
          case measure => simp [intOf]; omega
        · obtain rfl : k = ls.length := by omega
          rw [List.take_length] at HO
          go_wp2
          go_ret
          exact ⟨_, rfl, HO.out, HB.out⟩
/-! ### end of GIVEN -/
/-! ### GIVEN num_join: function 41 -/
theorem rows_two {α : Type} {d : Kd α} {e t : Nat} {W : World} {A0 A1 : Option Addr} {c0 c1 : Nat} {l0 l1 : List α} (h0 : Kd.C d W A0 l0.length l0) (hc0 : l0.length ≤ c0) (h1 : Kd.C d W A1 l1.length l1) (hc1 : l1.length ≤ c1) :
    Kd.C (Kd.slice e d) (W.alloc (.cells #[.slice A0 l0.length c0, .slice A1 l1.length c1] t)) (some ⟨W.heap.size, 0, none⟩) 2 [l0, l1] := by
  refine ⟨rfl, by omega, fun _ => ⟨_, rfl, fun j p hj => ?_⟩⟩
  have cell : ∀ i, (W.alloc (.cells #[Value.slice A0 l0.length c0, .slice A1 l1.length c1] t)).cell? ((⟨W.heap.size, 0, none⟩ : Addr).add i) = (#[Value.slice A0 l0.length c0, .slice A1 l1.length c1] : Array Value)[i]? := fun i => by
    rw [add_plain, cell_of_row _ _ _ _ _ _ (heap_alloc_new W _)]
  rcases j with _ | _ | j
  · obtain rfl : l0 = p := by simpa using hj
    refine ⟨[.slice A0 l0.length c0], rfl, ⟨A0, c0, rfl, hc0, Kd.C_alloc h0 _⟩, fun i u hu => ?_⟩
    rcases i with _ | i
    · rw [cell]; exact hu
    · simp at hu
  · obtain rfl : l1 = p := by simpa using hj
    refine ⟨[.slice A1 l1.length c1], rfl, ⟨A1, c1, rfl, hc1, Kd.C_alloc h1 _⟩, fun i u hu => ?_⟩
    rcases i with _ | i
    · rw [cell]; exact hu
    · simp at hu
  · simp at hj
def num_join.f (l0 l1 : List Int) : Option (List Int) := if l0.length + l1.length ≤ 140737488355328 then some (l0 ++ l1) else none
theorem num_join.calls (A0 : Option Addr) (c0 : Nat) (l0 : List Int) (A1 : Option Addr) (c1 : Nat) (l1 : List Int) (r : List Int) (w : World) (hr0 : Kd.C (Kd.int .u8) w A0 l0.length l0) (hc0 : l0.length ≤ c0) (hr1 : Kd.C (Kd.int .u8) w A1 l1.length l1) (hc1 : l1.length ≤ c1) (h : num_join.f l0 l1 = some r) :
    Calls Try.prog 41 #[.slice A0 l0.length c0, .slice A1 l1.length c1] w fun e w' => ∃ v0_ : Value, e = .returned (v0_) ∧ Kd.R (Kd.int .u8) 5 w' w.heap.size (fun _ => True) v0_ r ∧ Below w.heap.size w w' := by
  have hl : l0.length + l1.length ≤ 140737488355328 := by
    unfold num_join.f at h
    split at h
    · assumption
    · cases h
  have hr : r = l0 ++ l1 := by
    unfold num_join.f at h
    rw [if_pos hl] at h
    exact (Option.some.inj h).symm
  have hC := rows_two (e := 5) (t := 26) hr0 hc0 hr1 hc1
  have HX := Aside0.mk (slices_Concat.calls _ 2 _ _ hC (by simp only [lensum, List.map_cons, List.map_nil, List.sum_cons, List.sum_nil]; omega))
  have HB := Aside0.mk ((Below.refl w.heap.size w).alloc (Nat.le_refl _) (.cells #[.slice A0 l0.length c0, .slice A1 l1.length c1] 26))
  subst hr
  clear h hr0 hc0 hr1 hc1 hC hl
  go_enter Try.func41, Try.ntmps41
  go_wp2_with (go_at_call 42; refine HX.out.mono ?_; rintro e w1 ⟨v1, rfl, ho, hb⟩; have HO := Aside0.mk ho; have HB1 := Aside0.mk hb; clear ho hb)
  go_ret
  exact ⟨_, rfl, Kd.R_lower (by simpa using HO.out) HB.out.size, below_step HB.out HB1.out⟩
/-! ### end of GIVEN -/
/-! ### GIVEN num_Put: function 35 -/
/-- Byte i of eight, the greatest first. -/
def eighth (x : Int) (i : Nat) : Int := IntKind.u64.wrap x / 2 ^ (8 * (7 - i)) % 256
def row8 (x : Int) (k : Nat) : Array Value := ((List.range 8).map fun i => if i < k then Value.int .u8 (eighth x i) else .int .u8 0).toArray
theorem row8_get (x : Int) (k : Nat) (h : k < 8) : (row8 x k)[k]? = some (.int .u8 0) := by simp [row8, h]
theorem row8_set (x : Int) (k : Nat) (h : k < 8) : (row8 x k).setIfInBounds k (.int .u8 (eighth x k)) = row8 x (k + 1) := by
  apply Array.ext
  · simp [row8]
  · intro i h1 h2
    simp [row8, List.getElem_set]
    by_cases e : k = i
    · subst e; simp
    · have : i < k + 1 ↔ i < k := by omega
      simp [e, this]
/-- The last n of the eight bytes. -/
def eights (x : Int) (n : Nat) : List Int := (List.range n).map fun i => eighth x (8 - n + i)
theorem eights_length (x : Int) (n : Nat) : (eights x n).length = n := by simp [eights]
theorem row8_reads (W : World) (g : Nat) (x : Int) (n : Nat) (t : TypeId) (h1 : 1 ≤ n) (h8 : n ≤ 8) (hg : W.heap[g]? = some (.cells (row8 x 8) t (0, 0))) : Kd.C (Kd.int .u8) W (some ⟨g, 8 - n, none⟩) (eights x n).length (eights x n) := by
  refine ⟨rfl, by rw [eights_length]; omega, fun _ => ⟨_, rfl, fun j p hj => ⟨[.int .u8 p], rfl, rfl, fun i u hu => ?_⟩⟩⟩
  have hi : i = 0 := by
    rcases i with _ | i
    · rfl
    · simp at hu
  subst hi
  simp at hu
  subst hu
  obtain ⟨hlt, hp⟩ := List.getElem?_eq_some_iff.1 hj
  rw [eights_length] at hlt
  have ha : (⟨g, 8 - n, none⟩ : Addr).add (j * (Kd.int IntKind.u8).sz + 0) = ⟨g, 8 - n + j, none⟩ := by
    show (⟨g, 8 - n, none⟩ : Addr).add (j * 1 + 0) = _
    unfold Addr.add
    split
    · have : j = 0 := by omega
      subst this; simp
    · simp
  rw [ha, cell_of_row _ _ _ _ _ _ hg]
  have : 8 - n + j < 8 := by omega
  simp [row8, this]
  rw [← hp]
  simp [eights]
set_option maxHeartbeats 400000 in
def num_Put.f (l0 : List Int) (x n : Int) : Option (List Int) := num_join.f l0 (if n < 1 ∨ 8 < n then [] else eights x n.toNat)
theorem num_Put.calls (A0 : Option Addr) (c0 : Nat) (l0 : List Int) (x n : Int) (r : List Int) (w : World) (hr0 : Kd.C (Kd.int .u8) w A0 l0.length l0) (hc0 : l0.length ≤ c0) (h : num_Put.f l0 x n = some r) :
    Calls Try.prog 35 #[.slice A0 l0.length c0, .int .i64 x, .int .i64 n] w fun e w' => ∃ v0_ : Value, e = .returned (v0_) ∧ Kd.R (Kd.int .u8) 5 w' w.heap.size (fun _ => True) v0_ r ∧ Below w.heap.size w w' := by
  have HR0 := Aside0.mk hr0
  have HC0 := Aside0.mk hc0
  unfold num_Put.f at h
  by_cases hbad : n < 1 ∨ 8 < n
  · rw [if_pos hbad] at h
    have H := Aside0.mk h
    clear hr0 hc0 h
    rcases hbad with hbad | hbad
    all_goals
      go_enter Try.func35, Try.ntmps35
      go_wp2_with (go_at_call 41; refine (num_join.calls _ _ l0 none 0 [] r _ HR0.out HC0.out (Kd.C_nil _ _) (Nat.le_refl _) H.out).mono ?_; rintro e w1 ⟨v1, rfl, ho, hb⟩; have HO := Aside0.mk ho; have HB1 := Aside0.mk hb; clear ho hb)
      go_ret
      exact ⟨_, rfl, HO.out, HB1.out⟩
  · rw [if_neg hbad] at h
    have H := Aside0.mk h
    clear hr0 hc0 h
    have h1 : 1 ≤ n := by omega
    have h8 : n ≤ 8 := by omega
    clear hbad
    go_enter Try.func35, Try.ntmps35
    go_wp2
    go_loopw [17] (fun i wr => ∃ k : Nat, k ≤ 8 ∧ i = .int .i64 k ∧ wr = w.alloc (.cells (row8 x k) 69)) (fun i _ => 8 - (intOf i).toNat)
    case atStart => exact ⟨0, by omega, rfl, rfl⟩
    case round =>
      obtain ⟨k, hk, rfl, rfl⟩ := hrel
      by_cases hlt : k < 8
      · have hcell := row8_get x k hlt
        go_wp2
        go_roundw
        case rel => exact ⟨k + 1, by omega, by go_num, by rw [← row8_set x k hlt]; rfl⟩
        case measure => simp [intOf]; omega
      · obtain rfl : k = 8 := by omega
        clear hk hlt
        obtain ⟨m, rfl⟩ : ∃ m : Nat, n = m := ⟨n.toNat, by omega⟩
        have hcut0 := fun W => Own.run_array_from (P := Try.prog) 69 5 8 Try.underlying69 (by kernel_rfl) w.heap.size .i64 (8 - (m : Int)) (8 - m) (by omega) (by omega) W
        rw [show 8 - (8 - m) = m from by omega] at hcut0
        have hcut : ∀ W, (Instr.sliceAt 69 (.pointer (some ⟨w.heap.size, 0, none⟩)) (some (.int .i64 (8 - (m : Int)))) none none).run Try.prog W = .ok (.slice (some ⟨w.heap.size, 8 - m, none⟩) (eights x m).length m) W := by rw [eights_length]; exact hcut0
        clear hcut0
        have HX := Aside0.mk (row8_reads (w.alloc (.cells (row8 x 8) 69)) w.heap.size x m 69 (by omega) (by omega) (heap_alloc_new w _))
        have HB := Aside0.mk ((Below.refl w.heap.size w).alloc (Nat.le_refl _) (.cells (row8 x 8) 69))
        go_wp2_with (go_at_call 41; refine (num_join.calls _ _ l0 _ _ (eights x m) r _ (Kd.C_below HR0.out HB.out) HC0.out HX.out (by rw [eights_length]; exact Nat.le_refl _) H.out).mono ?_; rintro e w1 ⟨v1, rfl, ho, hb⟩; have HO := Aside0.mk ho; have HB1 := Aside0.mk hb; clear ho hb)
        go_ret
        exact ⟨_, rfl, Kd.R_lower HO.out HB.out.size, below_step HB.out HB1.out⟩
/-! ### end of GIVEN -/
/-! ### inode_put: function 27 -/
def inode_put.l0 : Nat → List Int → List (S53) → Int → Int → Option (List Int × Bool)
  | 0, _, _, _, _ => none
  | k + 1, x0, x8, x9, x10 => if x10 < x9 then (if 0 ≤ x10 then (if x10 < (x8.length : Int) then (if ((rd_T53 x8 x10).f0) < ((rd_T53 x8 x10).f2) then (some (([] : List Int), false)) else (if ((rd_T53 x8 x10).f0) > ((rd_T53 x8 x10).f3) then (some (([] : List Int), false)) else ((num_Put.f x0 ((rd_T53 x8 x10).f0) ((rd_T53 x8 x10).f1)).bind fun t103 => (inode_put.l0 k t103 x8 x9 (wrap64 (x10 + 1)))))) else (none)) else (none)) else (some (x0, true))
def inode_put.f (k : Nat) (l0 : List Int) (l1 : List (S53)) : Option (List Int × Bool) := inode_put.l0 k l0 l1 (l1.length : Int) 0
theorem inode_put.mono_l : ∀ k, (∀ y0 y1 y2 y3, LeO (inode_put.l0 k y0 y1 y2 y3) (inode_put.l0 (k + 1) y0 y1 y2 y3))
  | 0 => fun _ _ _ _ r h => by simp [inode_put.l0] at h
  | k + 1 => by
    have ih0 := inode_put.mono_l k
    · intro y0 y1 y2 y3
      unfold inode_put.l0
      repeat' first
      | (with_reducible exact ih0 _ _ _ _)
      | (with_reducible exact LeO.refl _)
      | (with_reducible exact LeO.none _)
      | (with_reducible refine LeO.ite ?_ ?_)
      | (with_reducible refine LeO.bind ?_ (fun _ => ?_))
      | exact ih0 _ _ _ _
      | exact LeO.none _
      | refine LeO.ite ?_ ?_
      | refine LeO.bind ?_ (fun _ => ?_)
theorem inode_put.mono : ∀ a0 a1 k, LeO (inode_put.f k a0 a1) (inode_put.f (k + 1) a0 a1) := by
  intro a0 a1 k
  have ih0 := inode_put.mono_l k
  unfold inode_put.f
  repeat' first
      | (with_reducible exact ih0 _ _ _ _)
      | (with_reducible exact LeO.refl _)
      | (with_reducible exact LeO.none _)
      | (with_reducible refine LeO.ite ?_ ?_)
      | (with_reducible refine LeO.bind ?_ (fun _ => ?_))
      | exact ih0 _ _ _ _
      | exact LeO.none _
      | refine LeO.ite ?_ ?_
      | refine LeO.bind ?_ (fun _ => ?_)
set_option maxHeartbeats 8000000 in
set_option maxRecDepth 100000 in
theorem inode_put.calls (k : Nat) (P0_ : Nat → Prop) (A0 : Option Addr) (c0 : Nat) (l0 : List Int) (A1 : Option Addr) (c1 : Nat) (l1 : List (S53)) (r1 : List Int) (r2 : Bool) (w : World) (hs0 : Kd.V (Kd.int .u8) 5 w w.heap.size (fun k_ => P0_ k_) (.slice A0 l0.length c0) l0) (hr1 : Kd.C k53 w A1 l1.length l1) (hc1 : l1.length ≤ c1) (h : inode_put.f k l0 l1 = some (r1, r2)) :
    Calls Try.prog 27 #[.slice A0 l0.length c0, .slice A1 l1.length c1] w fun e w' => ∃ v0_ : Value, e = .returned (.tuple #[v0_, .bool r2]) ∧ Kd.V (Kd.int .u8) 5 w' w.heap.size (fun k_ => (P0_ k_ ∨ w.heap.size ≤ k_)) v0_ r1 ∧ Below w.heap.size w w' := by
  have hu53 := Try.underlying53
  have HO0 := Aside0.mk (show Kd.V (Kd.int .u8) 5 w w.heap.size (fun k_ => (P0_ k_ ∨ w.heap.size ≤ k_)) (.slice A0 l0.length c0) l0 from Kd.V_mono hs0 (fun k_ hk => .inl hk))
  have HR1 := Aside0.mk hr1
  have HC1 := Aside0.mk hc1
  clear hr1 hc1
  have HB := Aside0.mk (Below.refl w.heap.size w)
  have H : (inode_put.l0 k l0 l1 (l1.length : Int) 0) = some (r1, r2) := h
  clear h
  have H' := Aside0.mk H
  clear H
  go_enter Try.func27, Try.ntmps27
  go_wp2
  go_loopg [0, 10] k (fun kq v0 v10 w' => ∃ (x0_1 : List Int) (x10_1 : Int), v10 = .int .i64 x10_1 ∧ Aside0 (inode_put.l0 kq x0_1 l1 (l1.length : Int) x10_1 = some (r1, r2)) ∧ Aside0 (kq ≤ k) ∧ Aside0 (Kd.V (Kd.int .u8) 5 w' w.heap.size (fun k_ => (P0_ k_ ∨ w.heap.size ≤ k_)) v0 x0_1) ∧ Aside0 (Below w.heap.size w w'))
  case atStart => exact ⟨(l0), (0), (by first | rfl | (simp; done) | (simp [*]; done)), H', ⟨Nat.le_refl _⟩, ⟨by (with_reducible repeat (first | apply Kd.V_alloc | apply Kd.V_drewN | apply Kd.V_drew)); exact HO0.out⟩, ⟨by repeat (first | (with_reducible first | exact HB.out | apply below_alloc | apply pw_below_drewN | apply below_drew1) | exact HB.out)⟩⟩
  case round =>
    clear H'
    try clear c1
    try clear c2
    try clear p2
    obtain ⟨x0_1, x10_1, rfl, HA, HK1, HO_0, HB⟩ := hrel
    cases gk with
    | zero => exact absurd HA.out (by simp [inode_put.l0])
    | succ k1 =>
      have H := HA.out
      clear HA
      simp only [inode_put.l0] at H
      by_cases c3 : x10_1 < (l1.length : Int)
      · rw [if_pos c3] at H
        have c3b0 : decide (x10_1 < (l1.length : Int)) = true := decide_eq_true c3
        clear c3
        by_cases c4 : 0 ≤ x10_1
        · rw [if_pos c4] at H
          have c4b0 : decide (0 ≤ x10_1) = true := decide_eq_true c4
          clear c4
          by_cases c5 : x10_1 < (l1.length : Int)
          · rw [if_pos c5] at H
            have c5b0 : decide (x10_1 < (l1.length : Int)) = true := decide_eq_true c5
            clear c5
            by_cases c6 : ((rd_T53 l1 x10_1).f0) < ((rd_T53 l1 x10_1).f2)
            · rw [if_pos c6] at H
              have c6b0 : decide (((rd_T53 l1 x10_1).f0) < ((rd_T53 l1 x10_1).f2)) = true := decide_eq_true c6
              clear c6
              simp only [Option.some.injEq, Prod.mk.injEq] at H
              obtain ⟨rfl, rfl⟩ := H
              have p101 : 0 ≤ (x10_1 : Int) := of_decide_eq_true (by first | (with_reducible assumption) | assumption)
              have q101 : x10_1 < (l1.length : Int) := of_decide_eq_true (by first | (with_reducible assumption) | assumption)
              obtain ⟨ad101, e101, hx101_0, hx101_1, hx101_2, hx101_3⟩ := at_T53 HR1.out x10_1 p101 q101
              cases e101
              replace hx101_0 := (HB.out.cell (World.block_lt_of_cell? w _ hx101_0)).trans hx101_0
              replace hx101_1 := (HB.out.cell (World.block_lt_of_cell? w _ hx101_1)).trans hx101_1
              replace hx101_2 := (HB.out.cell (World.block_lt_of_cell? w _ hx101_2)).trans hx101_2
              replace hx101_3 := (HB.out.cell (World.block_lt_of_cell? w _ hx101_3)).trans hx101_3
              replace p101 := eq_true p101
              replace q101 := eq_true q101
              go_wp2_with (first | ((with_reducible refine gate_dst (N := 7) rfl ?_); refine box_event ?hg (N := 7) ?hd (cs := #[.int .i64 0, .int .i64 0, .int .i64 0, .int .i64 0]) (t := 53) ?hr ?_; (case hd => rfl); (case hg => rfl); (case hr => first | (go_simp; done) | (go_simp; rfl)); intro gb102 hg w7 hbox hb; have n0_ := Aside0.mk (Kd.V_below (Kd.V_elderB (by (with_reducible repeat (first | apply Kd.V_alloc | apply Kd.V_drewN | apply Kd.V_drew)); exact HO_0.out) gb102 (Nat.le_of_eq hg.symm)) hb); have n1_ := Aside0.mk (below_step (by repeat (first | (with_reducible first | exact HB.out | apply below_alloc | apply pw_below_drewN | apply below_drew1) | exact HB.out)) hb); have n2_ := Aside0.mk (hbox); have n3_ := Aside0.mk ((by rw [hg]; exact (below_size (by repeat (first | (with_reducible first | exact HB.out | apply below_alloc | apply pw_below_drewN | apply below_drew1) | exact HB.out))) : w.heap.size ≤ gb102)); have n4_ := Aside0.mk ((by rw [hg]; exact (below_size (by repeat (first | (with_reducible first | exact HB.out | apply below_alloc | apply pw_below_drewN | apply below_drew1) | exact HB.out))) : w.heap.size ≤ gb102)); clear HO_0; clear HB; have HO_0 := n0_; have HB := n1_; have BK102 := n2_; have GW102 := n3_; have GE102 := n4_; clear n0_ n1_ n2_ n3_ n4_; clear hb hbox hg; have hcz8_0 : w7.cell? ⟨gb102, 0, none⟩ = some (.int .i64 0) := (blk_cell BK102.out 0).trans rfl; have hcz8_1 : w7.cell? ⟨gb102, 1, none⟩ = some (.int .i64 0) := (blk_cell BK102.out 1).trans rfl; have hcz8_2 : w7.cell? ⟨gb102, 2, none⟩ = some (.int .i64 0) := (blk_cell BK102.out 2).trans rfl; have hcz8_3 : w7.cell? ⟨gb102, 3, none⟩ = some (.int .i64 0) := (blk_cell BK102.out 3).trans rfl; have hfz8_0 := blk_frozen BK102.out 0; have hfz8_1 := blk_frozen BK102.out 1; have hfz8_2 := blk_frozen BK102.out 2; have hfz8_3 := blk_frozen BK102.out 3))
              go_ret2
              exact ⟨_, by first | rfl | (simp [errW_none, errW_some] <;> rfl) | (simp [*, errW_none, errW_some] <;> rfl), (Kd.V_nil _ _ _ _ _), by repeat (first | (with_reducible first | exact HB.out | apply below_alloc | apply pw_below_drewN | apply below_drew1 | refine below_set ?_ GE102.out) | exact HB.out)⟩
            · rw [if_neg c6] at H
              have c6b0 : decide (((rd_T53 l1 x10_1).f0) < ((rd_T53 l1 x10_1).f2)) = false := decide_eq_false c6
              clear c6
              by_cases c9 : ((rd_T53 l1 x10_1).f0) > ((rd_T53 l1 x10_1).f3)
              · rw [if_pos c9] at H
                have c9b0 : decide (((rd_T53 l1 x10_1).f3) < ((rd_T53 l1 x10_1).f0)) = true := decide_eq_true c9
                clear c9
                simp only [Option.some.injEq, Prod.mk.injEq] at H
                obtain ⟨rfl, rfl⟩ := H
                have p101 : 0 ≤ (x10_1 : Int) := of_decide_eq_true (by first | (with_reducible assumption) | assumption)
                have q101 : x10_1 < (l1.length : Int) := of_decide_eq_true (by first | (with_reducible assumption) | assumption)
                obtain ⟨ad101, e101, hx101_0, hx101_1, hx101_2, hx101_3⟩ := at_T53 HR1.out x10_1 p101 q101
                cases e101
                replace hx101_0 := (HB.out.cell (World.block_lt_of_cell? w _ hx101_0)).trans hx101_0
                replace hx101_1 := (HB.out.cell (World.block_lt_of_cell? w _ hx101_1)).trans hx101_1
                replace hx101_2 := (HB.out.cell (World.block_lt_of_cell? w _ hx101_2)).trans hx101_2
                replace hx101_3 := (HB.out.cell (World.block_lt_of_cell? w _ hx101_3)).trans hx101_3
                replace p101 := eq_true p101
                replace q101 := eq_true q101
                go_wp2_with (first | ((with_reducible refine gate_dst (N := 7) rfl ?_); refine box_event ?hg (N := 7) ?hd (cs := #[.int .i64 0, .int .i64 0, .int .i64 0, .int .i64 0]) (t := 53) ?hr ?_; (case hd => rfl); (case hg => rfl); (case hr => first | (go_simp; done) | (go_simp; rfl)); intro gb102 hg w10 hbox hb; have n0_ := Aside0.mk (Kd.V_below (Kd.V_elderB (by (with_reducible repeat (first | apply Kd.V_alloc | apply Kd.V_drewN | apply Kd.V_drew)); exact HO_0.out) gb102 (Nat.le_of_eq hg.symm)) hb); have n1_ := Aside0.mk (below_step (by repeat (first | (with_reducible first | exact HB.out | apply below_alloc | apply pw_below_drewN | apply below_drew1) | exact HB.out)) hb); have n2_ := Aside0.mk (hbox); have n3_ := Aside0.mk ((by rw [hg]; exact (below_size (by repeat (first | (with_reducible first | exact HB.out | apply below_alloc | apply pw_below_drewN | apply below_drew1) | exact HB.out))) : w.heap.size ≤ gb102)); have n4_ := Aside0.mk ((by rw [hg]; exact (below_size (by repeat (first | (with_reducible first | exact HB.out | apply below_alloc | apply pw_below_drewN | apply below_drew1) | exact HB.out))) : w.heap.size ≤ gb102)); clear HO_0; clear HB; have HO_0 := n0_; have HB := n1_; have BK102 := n2_; have GW102 := n3_; have GE102 := n4_; clear n0_ n1_ n2_ n3_ n4_; clear hb hbox hg; have hcz11_0 : w10.cell? ⟨gb102, 0, none⟩ = some (.int .i64 0) := (blk_cell BK102.out 0).trans rfl; have hcz11_1 : w10.cell? ⟨gb102, 1, none⟩ = some (.int .i64 0) := (blk_cell BK102.out 1).trans rfl; have hcz11_2 : w10.cell? ⟨gb102, 2, none⟩ = some (.int .i64 0) := (blk_cell BK102.out 2).trans rfl; have hcz11_3 : w10.cell? ⟨gb102, 3, none⟩ = some (.int .i64 0) := (blk_cell BK102.out 3).trans rfl; have hfz11_0 := blk_frozen BK102.out 0; have hfz11_1 := blk_frozen BK102.out 1; have hfz11_2 := blk_frozen BK102.out 2; have hfz11_3 := blk_frozen BK102.out 3))
                go_ret2
                exact ⟨_, by first | rfl | (simp [errW_none, errW_some] <;> rfl) | (simp [*, errW_none, errW_some] <;> rfl), (Kd.V_nil _ _ _ _ _), by repeat (first | (with_reducible first | exact HB.out | apply below_alloc | apply pw_below_drewN | apply below_drew1 | refine below_set ?_ GE102.out) | exact HB.out)⟩
              · rw [if_neg c9] at H
                have c9b0 : decide (((rd_T53 l1 x10_1).f3) < ((rd_T53 l1 x10_1).f0)) = false := decide_eq_false c9
                clear c9
                replace H := Option.bind_eq_some_iff.mp H
                obtain ⟨t103, A120, H⟩ := H
                replace H : (inode_put.l0 k1 t103 l1 (l1.length : Int) (wrap64 (x10_1 + 1))) = some (r1, r2) := H
                have A12 := Aside0.mk A120
                clear A120
                have H' := Aside0.mk H
                clear H
                have p101 : 0 ≤ (x10_1 : Int) := of_decide_eq_true (by first | (with_reducible assumption) | assumption)
                have q101 : x10_1 < (l1.length : Int) := of_decide_eq_true (by first | (with_reducible assumption) | assumption)
                obtain ⟨ad101, e101, hx101_0, hx101_1, hx101_2, hx101_3⟩ := at_T53 HR1.out x10_1 p101 q101
                cases e101
                replace hx101_0 := (HB.out.cell (World.block_lt_of_cell? w _ hx101_0)).trans hx101_0
                replace hx101_1 := (HB.out.cell (World.block_lt_of_cell? w _ hx101_1)).trans hx101_1
                replace hx101_2 := (HB.out.cell (World.block_lt_of_cell? w _ hx101_2)).trans hx101_2
                replace hx101_3 := (HB.out.cell (World.block_lt_of_cell? w _ hx101_3)).trans hx101_3
                replace p101 := eq_true p101
                replace q101 := eq_true q101
                go_wp2_with (first | ((with_reducible refine gate_dst (N := 7) rfl ?_); refine box_event ?hg (N := 7) ?hd (cs := #[.int .i64 0, .int .i64 0, .int .i64 0, .int .i64 0]) (t := 53) ?hr ?_; (case hd => rfl); (case hg => rfl); (case hr => first | (go_simp; done) | (go_simp; rfl)); intro gb102 hg w13 hbox hb; have n0_ := Aside0.mk (Kd.V_below (Kd.V_elderB (by (with_reducible repeat (first | apply Kd.V_alloc | apply Kd.V_drewN | apply Kd.V_drew)); exact HO_0.out) gb102 (Nat.le_of_eq hg.symm)) hb); have n1_ := Aside0.mk (below_step (by repeat (first | (with_reducible first | exact HB.out | apply below_alloc | apply pw_below_drewN | apply below_drew1) | exact HB.out)) hb); have n2_ := Aside0.mk (hbox); have n3_ := Aside0.mk ((by rw [hg]; exact (below_size (by repeat (first | (with_reducible first | exact HB.out | apply below_alloc | apply pw_below_drewN | apply below_drew1) | exact HB.out))) : w.heap.size ≤ gb102)); have n4_ := Aside0.mk ((by rw [hg]; exact (below_size (by repeat (first | (with_reducible first | exact HB.out | apply below_alloc | apply pw_below_drewN | apply below_drew1) | exact HB.out))) : w.heap.size ≤ gb102)); clear HO_0; clear HB; have HO_0 := n0_; have HB := n1_; have BK102 := n2_; have GW102 := n3_; have GE102 := n4_; clear n0_ n1_ n2_ n3_ n4_; clear hb hbox hg; have hcz14_0 : w13.cell? ⟨gb102, 0, none⟩ = some (.int .i64 0) := (blk_cell BK102.out 0).trans rfl; have hcz14_1 : w13.cell? ⟨gb102, 1, none⟩ = some (.int .i64 0) := (blk_cell BK102.out 1).trans rfl; have hcz14_2 : w13.cell? ⟨gb102, 2, none⟩ = some (.int .i64 0) := (blk_cell BK102.out 2).trans rfl; have hcz14_3 : w13.cell? ⟨gb102, 3, none⟩ = some (.int .i64 0) := (blk_cell BK102.out 3).trans rfl; have hfz14_0 := blk_frozen BK102.out 0; have hfz14_1 := blk_frozen BK102.out 1; have hfz14_2 := blk_frozen BK102.out 2; have hfz14_3 := blk_frozen BK102.out 3; obtain ⟨Ao15, co15, eo15⟩ := Kd.V_slice HO_0.out; subst eo15) | ((with_reducible refine gate_callee (f := 35) rfl ?_); refine goesL_ (some 31) rfl rfl Try.func35 (by kernel_rfl) rfl #[.slice Ao15 x0_1.length co15, .int .i64 ((rd_T53 l1 x10_1).f0), .int .i64 ((rd_T53 l1 x10_1).f1)] rfl (by (try simp only [List.map_toArray, List.map_cons, List.map_nil]); first | done | rfl | (simp only [List.length_drop, List.length_take]; rfl)) ?_; (with_reducible refine (num_Put.calls _ _ x0_1 ((rd_T53 l1 x10_1).f0) ((rd_T53 l1 x10_1).f1) t103 _ ?side1 ?side2 A12.out).mono ?_); (case side1 => refine (Kd.V_reads' (e := 5) (base := w.heap.size) (ok := fun k_ => ((P0_ k_ ∨ w.heap.size ≤ k_) ∧ k_ ≠ gb102)) (n := x0_1.length) (c := co15) ?_).2.2; exact (by (with_reducible repeat (first | apply Kd.V_alloc | apply Kd.V_drewN | apply Kd.V_drew)); exact (Kd.V_mono (Kd.V_far (p := ⟨gb102, 3, none⟩) (Kd.V_far (p := ⟨gb102, 2, none⟩) (Kd.V_far (p := ⟨gb102, 1, none⟩) (Kd.V_far (p := ⟨gb102, 0, none⟩) (Kd.V_mono HO_0.out (fun k_ hk => (⟨hk, hk.2⟩ : _ ∧ k_ ≠ gb102))) (fun _ hk => hk.2) (.int .i64 ((rd_T53 l1 x10_1).f0))) (fun _ hk => hk.2) (.int .i64 ((rd_T53 l1 x10_1).f1))) (fun _ hk => hk.2) (.int .i64 ((rd_T53 l1 x10_1).f2))) (fun _ hk => hk.2) (.int .i64 ((rd_T53 l1 x10_1).f3))) (fun _ h_ => h_.1)))); (case side2 => exact (Kd.V_reads' HO_0.out).2.1); rintro e w16 ⟨v104, rfl, ho0, hb⟩; refine ⟨_, rfl, ?_⟩; have n0_ := Aside0.mk (Kd.V_elder' (by (with_reducible repeat (first | apply Kd.V_alloc | apply Kd.V_drewN | apply Kd.V_drew)); exact (Kd.V_mono (Kd.V_far (p := ⟨gb102, 3, none⟩) (Kd.V_far (p := ⟨gb102, 2, none⟩) (Kd.V_far (p := ⟨gb102, 1, none⟩) (Kd.V_far (p := ⟨gb102, 0, none⟩) (Kd.V_mono HO_0.out (fun k_ hk => (⟨hk, hk.2⟩ : _ ∧ k_ ≠ gb102))) (fun _ hk => hk.2) (.int .i64 ((rd_T53 l1 x10_1).f0))) (fun _ hk => hk.2) (.int .i64 ((rd_T53 l1 x10_1).f1))) (fun _ hk => hk.2) (.int .i64 ((rd_T53 l1 x10_1).f2))) (fun _ hk => hk.2) (.int .i64 ((rd_T53 l1 x10_1).f3))) (fun _ h_ => h_.1))) (Kd.R_base ho0) hb); have n1_ := Aside0.mk (Kd.R_lower (Kd.R_newM (M := fun k_ => (w.heap.size ≤ k_)) ho0 (below_size (by repeat (first | (with_reducible first | exact HB.out | apply below_alloc | apply pw_below_drewN | apply below_drew1 | refine below_set ?_ GE102.out) | exact HB.out))) (fun k_ h_ => h_)) (below_size (by repeat (first | (with_reducible first | exact HB.out | apply below_alloc | apply pw_below_drewN | apply below_drew1 | refine below_set ?_ GE102.out) | exact HB.out)))); have n2_ := Aside0.mk (blk_below (g := gb102) (o := .cells #[.int .i64 ((rd_T53 l1 x10_1).f0), .int .i64 ((rd_T53 l1 x10_1).f1), .int .i64 ((rd_T53 l1 x10_1).f2), .int .i64 ((rd_T53 l1 x10_1).f3)] 53 (0, 0)) (by (with_reducible repeat (first | refine blk_drewN ?_ _ | refine blk_drew ?_ | refine blk_alloc ?_ _)); refine blk_put (cs := #[.int .i64 ((rd_T53 l1 x10_1).f0), .int .i64 ((rd_T53 l1 x10_1).f1), .int .i64 ((rd_T53 l1 x10_1).f2), .int .i64 0]) ?_ 3 _ rfl; (with_reducible repeat (first | refine blk_drewN ?_ _ | refine blk_drew ?_ | refine blk_alloc ?_ _)); refine blk_put (cs := #[.int .i64 ((rd_T53 l1 x10_1).f0), .int .i64 ((rd_T53 l1 x10_1).f1), .int .i64 0, .int .i64 0]) ?_ 2 _ rfl; (with_reducible repeat (first | refine blk_drewN ?_ _ | refine blk_drew ?_ | refine blk_alloc ?_ _)); refine blk_put (cs := #[.int .i64 ((rd_T53 l1 x10_1).f0), .int .i64 0, .int .i64 0, .int .i64 0]) ?_ 1 _ rfl; (with_reducible repeat (first | refine blk_drewN ?_ _ | refine blk_drew ?_ | refine blk_alloc ?_ _)); refine blk_put (cs := #[.int .i64 0, .int .i64 0, .int .i64 0, .int .i64 0]) ?_ 0 _ rfl; (with_reducible repeat (first | refine blk_drewN ?_ _ | refine blk_drew ?_ | refine blk_alloc ?_ _)); exact BK102.out) hb); have n3_ := Aside0.mk (below_step (by repeat (first | (with_reducible first | exact HB.out | apply below_alloc | apply pw_below_drewN | apply below_drew1 | refine below_set ?_ GE102.out) | exact HB.out)) hb); clear HO_0; clear BK102; clear HB; have HO_0 := n0_; have HO105 := n1_; have BK102 := n2_; have HB := n3_; clear n0_ n1_ n2_ n3_; (try clear hb); (try clear hb2); (try clear hk); (try clear hi); (try clear ho0)))
                go_roundg k1
                case measure => have := HK1.out; omega
                case rel => exact ⟨(t103), (wrap64 (x10_1 + 1)), (by first | rfl | (simp; done) | (simp [*]; done)), H', ⟨by have := HK1.out; omega⟩, ⟨Kd.V_mono (Kd.R_V (by (with_reducible repeat (first | apply Kd.R_alloc | apply Kd.R_drewN | apply Kd.R_drew)); exact Kd.R_mono HO105.out (fun _ hk => hk.1))) (fun k_ hk => by first | exact ⟨(.inr (hk.1)), hk.2⟩ | exact (.inr (hk)))⟩, ⟨by repeat (first | (with_reducible first | exact HB.out | apply below_alloc | apply pw_below_drewN | apply below_drew1 | refine below_set ?_ GE102.out) | exact HB.out)⟩⟩
          · rw [if_neg c5] at H
            exact absurd H (by simp)
        · rw [if_neg c4] at H
          exact absurd H (by simp)
      · rw [if_neg c3] at H
        have c3b0 : decide (x10_1 < (l1.length : Int)) = false := decide_eq_false c3
        clear c3
        simp only [Option.some.injEq, Prod.mk.injEq] at H
        obtain ⟨rfl, rfl⟩ := H
        go_wp2
        go_ret2
        exact ⟨_, by first | rfl | (simp [errW_none, errW_some] <;> rfl) | (simp [*, errW_none, errW_some] <;> rfl), by (with_reducible repeat (first | apply Kd.V_alloc | apply Kd.V_drewN | apply Kd.V_drew)); exact HO_0.out, by repeat (first | (with_reducible first | exact HB.out | apply below_alloc | apply pw_below_drewN | apply below_drew1) | exact HB.out)⟩

/-! ### inode_Put: function 10 -/
def inode_Put.f (k : Nat) (a0_0 : Int) (a0_1 : Int) (a0_2 : Int) : Option (List Int × Int) := (inode_put.f k ([] : List Int) (([(⟨a0_0, 1, 1, 2⟩ : S53), (⟨a0_1, 2, 0, 65535⟩ : S53), (⟨a0_2, 4, 0, 2147483647⟩ : S53)] : List (S53)))).bind fun bt110 => ((inode_told.f bt110.1 bt110.2).bind fun bt114 => (some (bt114.1, bt114.2)))
theorem inode_Put.mono : ∀ a0 a1 a2 k, LeO (inode_Put.f k a0 a1 a2) (inode_Put.f (k + 1) a0 a1 a2) := by
  intro a0 a1 a2 k
  unfold inode_Put.f
  repeat' first
      | (with_reducible exact inode_put.mono _ _ _)
      | (with_reducible exact LeO.refl _)
      | (with_reducible exact LeO.none _)
      | (with_reducible refine LeO.ite ?_ ?_)
      | (with_reducible refine LeO.bind ?_ (fun _ => ?_))
      | exact inode_put.mono _ _ _
      | exact LeO.none _
      | refine LeO.ite ?_ ?_
      | refine LeO.bind ?_ (fun _ => ?_)
set_option maxHeartbeats 8000000 in
set_option maxRecDepth 100000 in
theorem inode_Put.calls (k : Nat) (a0_0 : Int) (a0_1 : Int) (a0_2 : Int) (r1 : List Int) (r2 : Int) (w : World) (h : inode_Put.f k a0_0 a0_1 a0_2 = some (r1, r2)) :
    Calls Try.prog 10 #[.agg #[.int .i64 a0_0, .int .i64 a0_1, .int .i64 a0_2]] w fun e w' => ∃ v0_ : Value, e = .returned (.tuple #[v0_, .int .i64 r2]) ∧ Kd.V (Kd.int .u8) 5 w' w.heap.size (fun k_ => (w.heap.size ≤ k_)) v0_ r1 ∧ Below w.heap.size w w' := by
  have hu23 := Try.underlying23
  have hu53 := Try.underlying53
  have HB := Aside0.mk (Below.refl w.heap.size w)
  have H : ((inode_put.f k ([] : List Int) (([(⟨a0_0, 1, 1, 2⟩ : S53), (⟨a0_1, 2, 0, 65535⟩ : S53), (⟨a0_2, 4, 0, 2147483647⟩ : S53)] : List (S53)))).bind fun bt110 => ((inode_told.f bt110.1 bt110.2).bind fun bt114 => (some (bt114.1, bt114.2)))) = some (r1, r2) := h
  clear h
  obtain ⟨y107, hy107⟩ : ∃ y_ : List (S53), y_ = (([(⟨a0_0, 1, 1, 2⟩ : S53), (⟨a0_1, 2, 0, 65535⟩ : S53), (⟨a0_2, 4, 0, 2147483647⟩ : S53)] : List (S53))) := ⟨_, rfl⟩
  replace H : ((inode_put.f k ([] : List Int) y107).bind fun bt110 => ((inode_told.f bt110.1 bt110.2).bind fun bt114 => (some (bt114.1, bt114.2)))) = some (r1, r2) := by first | (rw [hy107]; with_reducible exact H) | (have H2_ := (Option.bind_some _ _).symm.trans H; rw [hy107]; with_reducible exact H2_) | (have H2_ := (Option.bind_some _ _).symm.trans H; with_reducible exact H2_) | with_reducible exact H | (rw [hy107]; exact H) | exact H
  have Ny107 := Aside0.mk hy107
  clear hy107
  replace H := Option.bind_eq_some_iff.mp H
  obtain ⟨⟨t110, t113⟩, A20, H⟩ := H
  replace H : ((inode_told.f t110 t113).bind fun bt114 => (some (bt114.1, bt114.2))) = some (r1, r2) := H
  have A2 := Aside0.mk A20
  clear A20
  replace H := Option.bind_eq_some_iff.mp H
  obtain ⟨⟨t114, t117⟩, A30, H⟩ := H
  replace H : (some (t114, t117)) = some (r1, r2) := H
  have A3 := Aside0.mk A30
  clear A30
  simp only [Option.some.injEq, Prod.mk.injEq] at H
  obtain ⟨rfl, rfl⟩ := H
  go_enter Try.func10, Try.ntmps10
  go_wp2_with (first | ((with_reducible refine gate_dst (N := 1) rfl ?_); refine box_event ?hg (N := 1) ?hd (cs := #[.int .i64 a0_0, .int .i64 a0_1, .int .i64 a0_2]) (t := 23) ?hr ?_; (case hd => rfl); (case hg => rfl); (case hr => first | (go_simp; done) | (go_simp; rfl)); intro gb106 hg w4 hbox hb; have n0_ := Aside0.mk (below_step (by repeat (first | (with_reducible first | exact HB.out | apply below_alloc | apply pw_below_drewN | apply below_drew1) | exact HB.out)) hb); have n1_ := Aside0.mk (hbox); have n2_ := Aside0.mk ((by rw [hg]; exact (below_size (by repeat (first | (with_reducible first | exact HB.out | apply below_alloc | apply pw_below_drewN | apply below_drew1) | exact HB.out))) : w.heap.size ≤ gb106)); have n3_ := Aside0.mk ((by rw [hg]; exact (below_size (by repeat (first | (with_reducible first | exact HB.out | apply below_alloc | apply pw_below_drewN | apply below_drew1) | exact HB.out))) : w.heap.size ≤ gb106)); clear HB; have HB := n0_; have BK106 := n1_; have GW106 := n2_; have GE106 := n3_; clear n0_ n1_ n2_ n3_; clear hb hbox hg; have hcz5_0 : w4.cell? ⟨gb106, 0, none⟩ = some (.int .i64 a0_0) := (blk_cell BK106.out 0).trans rfl; have hcz5_1 : w4.cell? ⟨gb106, 1, none⟩ = some (.int .i64 a0_1) := (blk_cell BK106.out 1).trans rfl; have hcz5_2 : w4.cell? ⟨gb106, 2, none⟩ = some (.int .i64 a0_2) := (blk_cell BK106.out 2).trans rfl; have hfz5_0 := blk_frozen BK106.out 0; have hfz5_1 := blk_frozen BK106.out 1; have hfz5_2 := blk_frozen BK106.out 2) | ((with_reducible refine gate_dst (N := 13) rfl ?_); refine Kd.R_lit k53 _ 53 ?hg (N := 13) ?hd (xs := ([(⟨a0_0, 1, 1, 2⟩ : S53), (⟨a0_1, 2, 0, 65535⟩ : S53), (⟨a0_2, 4, 0, 2147483647⟩ : S53)] : List (S53))) (inner := [.int .i64 a0_0, .int .i64 1, .int .i64 1, .int .i64 2, .int .i64 a0_1, .int .i64 2, .int .i64 0, .int .i64 65535, .int .i64 a0_2, .int .i64 4, .int .i64 0, .int .i64 2147483647]) (ok := fun _ => True) (okp := fun _ => True) ?hr ?hp (fun _ hk => hk) trivial (Below.refl _ _) (Nat.le_refl _) (by simp) ?_; (case hd => rfl); (case hg => rfl); (case hr => first | (go_simp; done) | (go_simp; rfl)); (case hp => exact (Reps.c4 (show Kd.M k53 _ _ _ (⟨a0_0, 1, 1, 2⟩ : S53) [.int .i64 a0_0, .int .i64 1, .int .i64 1, .int .i64 2] from (k53_mkM _ _ _ (⟨a0_0, 1, 1, 2⟩ : S53) )) (Reps.c4 (show Kd.M k53 _ _ _ (⟨a0_1, 2, 0, 65535⟩ : S53) [.int .i64 a0_1, .int .i64 2, .int .i64 0, .int .i64 65535] from (k53_mkM _ _ _ (⟨a0_1, 2, 0, 65535⟩ : S53) )) (Reps.c4 (show Kd.M k53 _ _ _ (⟨a0_2, 4, 0, 2147483647⟩ : S53) [.int .i64 a0_2, .int .i64 4, .int .i64 0, .int .i64 2147483647] from (k53_mkM _ _ _ (⟨a0_2, 4, 0, 2147483647⟩ : S53) )) (Reps.none _ _))))); intro v108 w6 ho7 hb hg_ hnew_; clear hg_ hnew_; (first | rw [← Ny107.out] at ho7 | (simp only [Int.reduceToNat] at ho7; rw [← Ny107.out] at ho7)); have n0_ := Aside0.mk (Kd.R_lower (Kd.R_newM (M := fun k_ => (w.heap.size ≤ k_)) ho7 (below_size (by repeat (first | (with_reducible first | exact HB.out | apply below_alloc | apply pw_below_drewN | apply below_drew1 | refine below_set ?_ GE106.out) | exact HB.out))) (fun k_ h_ => h_)) (below_size (by repeat (first | (with_reducible first | exact HB.out | apply below_alloc | apply pw_below_drewN | apply below_drew1 | refine below_set ?_ GE106.out) | exact HB.out)))); have n1_ := Aside0.mk (blk_below (g := gb106) (o := .cells #[.int .i64 a0_0, .int .i64 a0_1, .int .i64 a0_2] 23 (0, 0)) (by (with_reducible repeat (first | refine blk_drewN ?_ _ | refine blk_drew ?_ | refine blk_alloc ?_ _)); exact BK106.out) hb); have n2_ := Aside0.mk (below_step (by repeat (first | (with_reducible first | exact HB.out | apply below_alloc | apply pw_below_drewN | apply below_drew1 | refine below_set ?_ GE106.out) | exact HB.out)) hb); clear BK106; clear HB; have HO109 := n0_; have BK106 := n1_; have HB := n2_; clear n0_ n1_ n2_; clear hb ho7; obtain ⟨Ao8, co8, eo8⟩ := Kd.R_slice HO109.out; subst eo8) | ((with_reducible refine gate_callee (f := 27) rfl ?_); refine goesL_ (some 14) rfl rfl Try.func27 (by kernel_rfl) rfl #[.slice none 0 0, .slice Ao8 y107.length co8] rfl (by (try simp only [List.map_toArray, List.map_cons, List.map_nil]); first | done | rfl | (simp only [List.length_drop, List.length_take]; rfl)) ?_; (refine (inode_put.calls k (fun k_ => False) _ _ ([] : List Int) _ _ y107 t110 t113 _ ?side1 ?side2 ?side3 A2.out).mono ?_); (case side1 => exact Kd.V_nil _ _ _ _ _); (case side2 => repeat (first | exact (Kd.R_reads' HO109.out).2.2 | (with_reducible refine Kd.C_alloc ?_ _) | (with_reducible refine Kd.C_drewN ?_ _) | (with_reducible refine Kd.C_drew ?_))); (case side3 => exact (Kd.R_reads' HO109.out).2.1); rintro e w9 ⟨v111, rfl, ho0, hb⟩; refine ⟨_, rfl, ?_⟩; have n0_ := Aside0.mk (Kd.R_below (by (with_reducible repeat (first | apply Kd.R_alloc | apply Kd.R_drewN | apply Kd.R_drew)); exact HO109.out) hb); have n1_ := Aside0.mk (Kd.V_lower (Kd.V_mono (ok' := fun k_ => (w.heap.size ≤ k_) ∧ some k_ ≠ (.slice Ao8 y107.length co8 : Value).ownBlock ∧ k_ ≠ gb106) ho0 (fun k_ hk_ => ⟨Or.elim hk_ (fun hs_ => (hs_).elim) (fun hn_ => (Nat.le_trans (below_size (by repeat (first | (with_reducible first | exact HB.out | apply below_alloc | apply pw_below_drewN | apply below_drew1 | refine below_set ?_ GE106.out) | exact HB.out))) hn_)), Or.elim hk_ (fun hs_ => (hs_).elim) (fun hn_ => (Kd.fresh' (Kd.R_lt (by (with_reducible repeat (first | apply Kd.R_alloc | apply Kd.R_drewN | apply Kd.R_drew)); exact HO109.out)) k_ hn_)), Or.elim hk_ (fun hs_ => (hs_).elim) (fun hn_ => (Kd.freshB (g := gb106) (o := .cells #[.int .i64 a0_0, .int .i64 a0_1, .int .i64 a0_2] 23 (0, 0)) (by (with_reducible repeat (first | refine blk_drewN ?_ _ | refine blk_drew ?_ | refine blk_alloc ?_ _)); exact BK106.out) k_ hn_))⟩)) (below_size (by repeat (first | (with_reducible first | exact HB.out | apply below_alloc | apply pw_below_drewN | apply below_drew1 | refine below_set ?_ GE106.out) | exact HB.out)))); have n2_ := Aside0.mk (blk_below (g := gb106) (o := .cells #[.int .i64 a0_0, .int .i64 a0_1, .int .i64 a0_2] 23 (0, 0)) (by (with_reducible repeat (first | refine blk_drewN ?_ _ | refine blk_drew ?_ | refine blk_alloc ?_ _)); exact BK106.out) hb); have n3_ := Aside0.mk (below_step (by repeat (first | (with_reducible first | exact HB.out | apply below_alloc | apply pw_below_drewN | apply below_drew1 | refine below_set ?_ GE106.out) | exact HB.out)) hb); clear HO109; clear BK106; clear HB; have HO109 := n0_; have HO112 := n1_; have BK106 := n2_; have HB := n3_; clear n0_ n1_ n2_ n3_; (try clear hb); (try clear hb2); (try clear hk); (try clear hi); (try clear ho0); obtain ⟨Ao10, co10, eo10⟩ := Kd.V_slice HO112.out; subst eo10) | ((with_reducible refine gate_callee (f := 26) rfl ?_); refine goesL_ (some 17) rfl rfl Try.func26 (by kernel_rfl) rfl #[.slice Ao10 t110.length co10, .bool t113] rfl (by (try simp only [List.map_toArray, List.map_cons, List.map_nil]); first | done | rfl | (simp only [List.length_drop, List.length_take]; rfl)) ?_; (with_reducible refine (inode_told.calls (fun k_ => ((w.heap.size ≤ k_) ∧ (some k_ ≠ (.slice Ao8 y107.length co8 : Value).ownBlock ∧ k_ ≠ gb106))) _ _ t110 t113 t114 t117 _ ?side1 A3.out).mono ?_); (case side1 => exact HO112.out); rintro e w11 ⟨v115, rfl, ho0, hb⟩; refine ⟨_, rfl, ?_⟩; have n0_ := Aside0.mk (Kd.R_below (by (with_reducible repeat (first | apply Kd.R_alloc | apply Kd.R_drewN | apply Kd.R_drew)); exact HO109.out) hb); have n1_ := Aside0.mk (Kd.V_below (by (with_reducible repeat (first | apply Kd.V_alloc | apply Kd.V_drewN | apply Kd.V_drew)); exact HO112.out) hb); have n2_ := Aside0.mk (Kd.V_lower (Kd.V_mono (ok' := fun k_ => (w.heap.size ≤ k_) ∧ some k_ ≠ (.slice Ao8 y107.length co8 : Value).ownBlock ∧ k_ ≠ gb106) ho0 (fun k_ hk_ => ⟨Or.elim hk_ (fun hs_ => hs_.1) (fun hn_ => (Nat.le_trans (below_size (by repeat (first | (with_reducible first | exact HB.out | apply below_alloc | apply pw_below_drewN | apply below_drew1 | refine below_set ?_ GE106.out) | exact HB.out))) hn_)), Or.elim hk_ (fun hs_ => hs_.2.1) (fun hn_ => (Kd.fresh' (Kd.R_lt (by (with_reducible repeat (first | apply Kd.R_alloc | apply Kd.R_drewN | apply Kd.R_drew)); exact HO109.out)) k_ hn_)), Or.elim hk_ (fun hs_ => hs_.2.2) (fun hn_ => (Kd.freshB (g := gb106) (o := .cells #[.int .i64 a0_0, .int .i64 a0_1, .int .i64 a0_2] 23 (0, 0)) (by (with_reducible repeat (first | refine blk_drewN ?_ _ | refine blk_drew ?_ | refine blk_alloc ?_ _)); exact BK106.out) k_ hn_))⟩)) (below_size (by repeat (first | (with_reducible first | exact HB.out | apply below_alloc | apply pw_below_drewN | apply below_drew1 | refine below_set ?_ GE106.out) | exact HB.out)))); have n3_ := Aside0.mk (blk_below (g := gb106) (o := .cells #[.int .i64 a0_0, .int .i64 a0_1, .int .i64 a0_2] 23 (0, 0)) (by (with_reducible repeat (first | refine blk_drewN ?_ _ | refine blk_drew ?_ | refine blk_alloc ?_ _)); exact BK106.out) hb); have n4_ := Aside0.mk (below_step (by repeat (first | (with_reducible first | exact HB.out | apply below_alloc | apply pw_below_drewN | apply below_drew1 | refine below_set ?_ GE106.out) | exact HB.out)) hb); clear HO109; clear HO112; clear BK106; clear HB; have HO109 := n0_; have HO112 := n1_; have HO116 := n2_; have BK106 := n3_; have HB := n4_; clear n0_ n1_ n2_ n3_ n4_; (try clear hb); (try clear hb2); (try clear hk); (try clear hi); (try clear ho0)))
  go_ret2
  exact ⟨_, by first | rfl | (simp [errW_none, errW_some] <;> rfl) | (simp [*, errW_none, errW_some] <;> rfl), by (with_reducible repeat (first | apply Kd.V_alloc | apply Kd.V_drewN | apply Kd.V_drew)); exact Kd.V_mono HO116.out (fun _ hk => hk.1), by repeat (first | (with_reducible first | exact HB.out | apply below_alloc | apply pw_below_drewN | apply below_drew1 | refine below_set ?_ GE106.out) | exact HB.out)⟩

/-! ### num_put: function 36 -/
def num_put.f (l0 : List Int) (l1 : List Int) (a2 : Int) (a3 : Int) : Option (List Int × Int) := if (l1.length : Int) > a3 then (some (([] : List Int), 7)) else ((num_Put.f l0 (l1.length : Int) a2).bind fun t118 => ((num_join.f t118 l1).bind fun t121 => (some (t121, 0))))
set_option maxHeartbeats 8000000 in
set_option maxRecDepth 100000 in
theorem num_put.calls (A0 : Option Addr) (c0 : Nat) (l0 : List Int) (A1 : Option Addr) (c1 : Nat) (l1 : List Int) (a2 : Int) (a3 : Int) (r1 : List Int) (r2 : Int) (w : World) (hr0 : Kd.C (Kd.int .u8) w A0 l0.length l0) (hc0 : l0.length ≤ c0) (hr1 : Kd.C (Kd.int .u8) w A1 l1.length l1) (hc1 : l1.length ≤ c1) (h : num_put.f l0 l1 a2 a3 = some (r1, r2)) :
    Calls Try.prog 36 #[.slice A0 l0.length c0, .slice A1 l1.length c1, .int .i64 a2, .int .i64 a3] w fun e w' => ∃ v0_ : Value, e = .returned (.tuple #[v0_, .int .i64 r2]) ∧ Kd.R (Kd.int .u8) 5 w' w.heap.size (fun _ => True) v0_ r1 ∧ Below w.heap.size w w' := by
  have HR0 := Aside0.mk hr0
  have HC0 := Aside0.mk hc0
  clear hr0 hc0
  have HR1 := Aside0.mk hr1
  have HC1 := Aside0.mk hc1
  clear hr1 hc1
  have HB := Aside0.mk (Below.refl w.heap.size w)
  have H : (if (l1.length : Int) > a3 then (some (([] : List Int), 7)) else ((num_Put.f l0 (l1.length : Int) a2).bind fun t118 => ((num_join.f t118 l1).bind fun t121 => (some (t121, 0))))) = some (r1, r2) := h
  clear h
  by_cases c5 : (l1.length : Int) > a3
  · rw [if_pos c5] at H
    have c5b0 : decide (a3 < (l1.length : Int)) = true := decide_eq_true c5
    clear c5
    simp only [Option.some.injEq, Prod.mk.injEq] at H
    obtain ⟨rfl, rfl⟩ := H
    go_enter Try.func36, Try.ntmps36
    go_wp2
    go_ret2
    exact ⟨_, by first | rfl | (simp [errW_none, errW_some] <;> rfl) | (simp [*, errW_none, errW_some] <;> rfl), by first | exact Kd.R_nil _ _ _ _ _ | exact Kd.N_nil _ _ _ _ _ | exact Kd.V_nil _ _ _ _ _ | exact Kd.Q_nil _ _ _ _ _ | exact Kd.S_nil _ _ _ _ _, by repeat (first | (with_reducible first | exact HB.out | apply below_alloc | apply pw_below_drewN | apply below_drew1) | exact HB.out)⟩
  · rw [if_neg c5] at H
    have c5b0 : decide (a3 < (l1.length : Int)) = false := decide_eq_false c5
    clear c5
    replace H := Option.bind_eq_some_iff.mp H
    obtain ⟨t118, A60, H⟩ := H
    replace H : ((num_join.f t118 l1).bind fun t121 => (some (t121, 0))) = some (r1, r2) := H
    have A6 := Aside0.mk A60
    clear A60
    replace H := Option.bind_eq_some_iff.mp H
    obtain ⟨t121, A70, H⟩ := H
    replace H : (some (t121, 0)) = some (r1, r2) := H
    have A7 := Aside0.mk A70
    clear A70
    simp only [Option.some.injEq, Prod.mk.injEq] at H
    obtain ⟨rfl, rfl⟩ := H
    go_enter Try.func36, Try.ntmps36
    go_wp2_with (first | ((with_reducible refine gate_callee (f := 35) rfl ?_); refine goesL_ (some 18) rfl rfl Try.func35 (by kernel_rfl) rfl #[.slice A0 l0.length c0, .int .i64 (l1.length : Int), .int .i64 a2] rfl (by (try simp only [List.map_toArray, List.map_cons, List.map_nil]); first | done | rfl | (simp only [List.length_drop, List.length_take]; rfl)) ?_; (with_reducible refine (num_Put.calls _ _ l0 (l1.length : Int) a2 t118 _ ?side1 ?side2 A6.out).mono ?_); (case side1 => repeat (first | exact HR0.out | (with_reducible refine Kd.C_alloc ?_ _) | (with_reducible refine Kd.C_drewN ?_ _) | (with_reducible refine Kd.C_drew ?_))); (case side2 => exact HC0.out); rintro e w8 ⟨v119, rfl, ho0, hb⟩; refine ⟨_, rfl, ?_⟩; have n0_ := Aside0.mk (Kd.R_lower ho0 (below_size (by repeat (first | (with_reducible first | exact HB.out | apply below_alloc | apply pw_below_drewN | apply below_drew1) | exact HB.out)))); have n1_ := Aside0.mk (below_step (by repeat (first | (with_reducible first | exact HB.out | apply below_alloc | apply pw_below_drewN | apply below_drew1) | exact HB.out)) hb); clear HB; have HO120 := n0_; have HB := n1_; clear n0_ n1_; (try clear hb); (try clear hb2); (try clear hk); (try clear hi); (try clear ho0); obtain ⟨Ao9, co9, eo9⟩ := Kd.R_slice HO120.out; subst eo9) | ((with_reducible refine gate_callee (f := 41) rfl ?_); refine goesL_ (some 20) rfl rfl Try.func41 (by kernel_rfl) rfl #[.slice Ao9 t118.length co9, .slice A1 l1.length c1] rfl (by (try simp only [List.map_toArray, List.map_cons, List.map_nil]); first | done | rfl | (simp only [List.length_drop, List.length_take]; rfl)) ?_; (with_reducible refine (num_join.calls _ _ t118 _ _ l1 t121 _ ?side1 ?side2 ?side3 ?side4 A7.out).mono ?_); (case side1 => repeat (first | exact (Kd.R_reads' HO120.out).2.2 | (with_reducible refine Kd.C_alloc ?_ _) | (with_reducible refine Kd.C_drewN ?_ _) | (with_reducible refine Kd.C_drew ?_))); (case side2 => exact (Kd.R_reads' HO120.out).2.1); (case side3 => repeat (first | exact (Kd.C_below HR1.out HB.out) | (with_reducible refine Kd.C_alloc ?_ _) | (with_reducible refine Kd.C_drewN ?_ _) | (with_reducible refine Kd.C_drew ?_))); (case side4 => exact HC1.out); rintro e w10 ⟨v122, rfl, ho0, hb⟩; refine ⟨_, rfl, ?_⟩; have n0_ := Aside0.mk (Kd.R_elder' (by (with_reducible repeat (first | apply Kd.R_alloc | apply Kd.R_drewN | apply Kd.R_drew)); exact HO120.out) (Kd.R_base ho0) hb); have n1_ := Aside0.mk (Kd.R_lower (Kd.R_new' ho0 (Kd.R_lt (by (with_reducible repeat (first | apply Kd.R_alloc | apply Kd.R_drewN | apply Kd.R_drew)); exact HO120.out))) (below_size (by repeat (first | (with_reducible first | exact HB.out | apply below_alloc | apply pw_below_drewN | apply below_drew1) | exact HB.out)))); have n2_ := Aside0.mk (below_step (by repeat (first | (with_reducible first | exact HB.out | apply below_alloc | apply pw_below_drewN | apply below_drew1) | exact HB.out)) hb); clear HO120; clear HB; have HO120 := n0_; have HO123 := n1_; have HB := n2_; clear n0_ n1_ n2_; (try clear hb); (try clear hb2); (try clear hk); (try clear hi); (try clear ho0)))
    go_ret2
    exact ⟨_, by first | rfl | (simp [errW_none, errW_some] <;> rfl) | (simp [*, errW_none, errW_some] <;> rfl), by (with_reducible repeat (first | apply Kd.R_alloc | apply Kd.R_drewN | apply Kd.R_drew)); exact Kd.R_mono HO123.out (fun _ hk => trivial), by repeat (first | (with_reducible first | exact HB.out | apply below_alloc | apply pw_below_drewN | apply below_drew1) | exact HB.out)⟩

/-! ### GIVEN num_PutText: function 29 -/
def num_PutText.f (l0 : List Int) (a1 : ByteArray) : Option (List Int × Int) := if a1.size ≤ 9223372036854775807 then num_put.f l0 (bytesOf a1) 1 255 else none
theorem num_PutText.calls (A0 : Option Addr) (c0 : Nat) (l0 : List Int) (a1 : ByteArray) (r1 : List Int) (r2 : Int) (w : World) (hr0 : Kd.C (Kd.int .u8) w A0 l0.length l0) (hc0 : l0.length ≤ c0) (h : num_PutText.f l0 a1 = some (r1, r2)) :
    Calls Try.prog 29 #[.slice A0 l0.length c0, .string a1] w fun e w' => ∃ v0_ : Value, e = .returned (.tuple #[v0_, .int .i64 r2]) ∧ Kd.R (Kd.int .u8) 5 w' w.heap.size (fun _ => True) v0_ r1 ∧ Below w.heap.size w w' := by
  unfold num_PutText.f at h
  by_cases hs : a1.size ≤ 9223372036854775807
  · rw [if_pos hs] at h
    have HC0 := Aside0.mk hc0
    have HB := Aside0.mk (bytes_below (Below.refl w.heap.size w) (Nat.le_refl _) 5 a1)
    have HR0 := Aside0.mk (Kd.C_below hr0 HB.out)
    have HR1 := Aside0.mk (Kd.C_of_reads (d := (0 : Int)) (h1 := fun _ => rfl) (bytes_reads w 5 a1 hs))
    have HG := Aside0.mk (grownCap_ge w a1.size 0 5)
    have kb0 := print_bytes (P := Try.prog) 9 26 5 Try.underlying9 Try.underlying26 Try.underlying5 a1 w
    have kb : (convert 9 26 (.string a1)).run Try.prog w = .ok (.slice (some ⟨w.heap.size, 0, none⟩) (bytesOf a1).length (grownCap w a1.size 0 5)) (Lib.bytesWorld w 5 a1) := by rw [bytesOf_length]; exact kb0
    have HR2 := Aside0.mk (show Kd.C (Kd.int .u8) (Lib.bytesWorld w 5 a1) (some ⟨w.heap.size, 0, none⟩) (bytesOf a1).length (bytesOf a1) from by rw [bytesOf_length]; exact HR1.out)
    have HG2 := Aside0.mk (show (bytesOf a1).length ≤ grownCap w a1.size 0 5 from by rw [bytesOf_length]; exact HG.out)
    have H := Aside0.mk h
    clear h hs hr0 hc0 kb0
    go_enter Try.func29, Try.ntmps29
    go_wp2_with (go_at_call 36; refine (num_put.calls _ _ l0 _ _ (bytesOf a1) 1 255 r1 r2 _ HR0.out HC0.out HR2.out HG2.out H.out).mono ?_; rintro e w1 ⟨v1, rfl, ho, hb⟩; have HO := Aside0.mk ho; have HB1 := Aside0.mk hb; clear ho hb)
    go_ret2
    exact ⟨_, rfl, Kd.R_lower HO.out HB.out.size, below_step HB.out HB1.out⟩
  · rw [if_neg hs] at h
    cases h
/-! ### end of GIVEN -/
/-! ### inode_PutEntry: function 12 -/
def inode_PutEntry.j0 : Nat → Bool → ByteArray → Int → Int → Option (List Int × Int)
  | 0, _, _, _, _ => none
  | k + 1, x15, x125000, x125001, x125002 => if x15 = true then (some (([] : List Int), 1)) else ((num_PutText.f ([] : List Int) x125000).bind fun bt125 => ((inode_put.f k bt125.1 (([(⟨x125001, 4, 1, 2147483647⟩ : S53), (⟨x125002, 1, 1, 2⟩ : S53)] : List (S53)))).bind fun bt132 => ((inode_told.f bt132.1 bt132.2).bind fun bt136 => (some (bt136.1, bt136.2)))))
def inode_PutEntry.f (k : Nat) (a0_0 : ByteArray) (a0_1 : Int) (a0_2 : Int) : Option (List Int × Int) := if (a0_0.size : Int) < 1 then (inode_PutEntry.j0 k true a0_0 a0_1 a0_2) else (inode_PutEntry.j0 k (decide ((a0_0.size : Int) > 20)) a0_0 a0_1 a0_2)
theorem inode_PutEntry.mono_l : ∀ k, (∀ y0 y1 y2 y3, LeO (inode_PutEntry.j0 k y0 y1 y2 y3) (inode_PutEntry.j0 (k + 1) y0 y1 y2 y3))
  | 0 => fun _ _ _ _ r h => by simp [inode_PutEntry.j0] at h
  | k + 1 => by
    have ih0 := inode_PutEntry.mono_l k
    · intro y0 y1 y2 y3
      unfold inode_PutEntry.j0
      repeat' first
      | (with_reducible exact ih0 _ _ _ _)
      | (with_reducible exact inode_put.mono _ _ _)
      | (with_reducible exact LeO.refl _)
      | (with_reducible exact LeO.none _)
      | (with_reducible refine LeO.ite ?_ ?_)
      | (with_reducible refine LeO.bind ?_ (fun _ => ?_))
      | exact ih0 _ _ _ _
      | exact inode_put.mono _ _ _
      | exact LeO.none _
      | refine LeO.ite ?_ ?_
      | refine LeO.bind ?_ (fun _ => ?_)
theorem inode_PutEntry.mono : ∀ a0 a1 a2 k, LeO (inode_PutEntry.f k a0 a1 a2) (inode_PutEntry.f (k + 1) a0 a1 a2) := by
  intro a0 a1 a2 k
  have ih0 := inode_PutEntry.mono_l k
  unfold inode_PutEntry.f
  repeat' first
      | (with_reducible exact ih0 _ _ _ _)
      | (with_reducible exact inode_put.mono _ _ _)
      | (with_reducible exact LeO.refl _)
      | (with_reducible exact LeO.none _)
      | (with_reducible refine LeO.ite ?_ ?_)
      | (with_reducible refine LeO.bind ?_ (fun _ => ?_))
      | exact ih0 _ _ _ _
      | exact inode_put.mono _ _ _
      | exact LeO.none _
      | refine LeO.ite ?_ ?_
      | refine LeO.bind ?_ (fun _ => ?_)
set_option maxHeartbeats 8000000 in
set_option maxRecDepth 100000 in
theorem inode_PutEntry.calls (k : Nat) (a0_0 : ByteArray) (a0_1 : Int) (a0_2 : Int) (r1 : List Int) (r2 : Int) (w : World) (h : inode_PutEntry.f k a0_0 a0_1 a0_2 = some (r1, r2)) :
    Calls Try.prog 12 #[.agg #[.string a0_0, .int .i64 a0_1, .int .i64 a0_2]] w fun e w' => ∃ v0_ : Value, e = .returned (.tuple #[v0_, .int .i64 r2]) ∧ Kd.V (Kd.int .u8) 5 w' w.heap.size (fun k_ => (w.heap.size ≤ k_)) v0_ r1 ∧ Below w.heap.size w w' := by
  have hu25 := Try.underlying25
  have hu53 := Try.underlying53
  have HB := Aside0.mk (Below.refl w.heap.size w)
  have H : (if (a0_0.size : Int) < 1 then (inode_PutEntry.j0 k true a0_0 a0_1 a0_2) else (inode_PutEntry.j0 k (decide ((a0_0.size : Int) > 20)) a0_0 a0_1 a0_2)) = some (r1, r2) := h
  clear h
  have HC2 := Aside0.mk H
  clear H
  go_enter Try.func12, Try.ntmps12
  go_upto_region 2 with (first | ((with_reducible refine gate_dst (N := 1) rfl ?_); refine box_event ?hg (N := 1) ?hd (cs := #[.string a0_0, .int .i64 a0_1, .int .i64 a0_2]) (t := 25) ?hr ?_; (case hd => rfl); (case hg => rfl); (case hr => first | (go_simp; done) | (go_simp; rfl)); intro gb124 hg w3 hbox hb; have n0_ := Aside0.mk (below_step (by repeat (first | (with_reducible first | exact HB.out | apply below_alloc | apply pw_below_drewN | apply below_drew1) | exact HB.out)) hb); have n1_ := Aside0.mk (hbox); have n2_ := Aside0.mk ((by rw [hg]; exact (below_size (by repeat (first | (with_reducible first | exact HB.out | apply below_alloc | apply pw_below_drewN | apply below_drew1) | exact HB.out))) : w.heap.size ≤ gb124)); have n3_ := Aside0.mk ((by rw [hg]; exact (below_size (by repeat (first | (with_reducible first | exact HB.out | apply below_alloc | apply pw_below_drewN | apply below_drew1) | exact HB.out))) : w.heap.size ≤ gb124)); clear HB; have HB := n0_; have BK124 := n1_; have GW124 := n2_; have GE124 := n3_; clear n0_ n1_ n2_ n3_; clear hb hbox hg; have hcz4_0 : w3.cell? ⟨gb124, 0, none⟩ = some (.string a0_0) := (blk_cell BK124.out 0).trans rfl; have hcz4_1 : w3.cell? ⟨gb124, 1, none⟩ = some (.int .i64 a0_1) := (blk_cell BK124.out 1).trans rfl; have hcz4_2 : w3.cell? ⟨gb124, 2, none⟩ = some (.int .i64 a0_2) := (blk_cell BK124.out 2).trans rfl; have hfz4_0 := blk_frozen BK124.out 0; have hfz4_1 := blk_frozen BK124.out 1; have hfz4_2 := blk_frozen BK124.out 2))
  (try simp only [Act.put, List.setIfInBounds_toArray, List.set_cons_zero, List.set_cons_succ])
  go_cut [15] (fun v15 wc => ∃ (kq : Nat) (x15_1 : Bool), v15 = .bool x15_1 ∧ Aside0 (inode_PutEntry.j0 kq x15_1 a0_0 a0_1 a0_2 = some (r1, r2)) ∧ Aside0 (kq ≤ k) ∧ Aside0 (wc.heap[gb124]? = some (.cells #[.string a0_0, .int .i64 a0_1, .int .i64 a0_2] 25 (0, 0))) ∧ Aside0 (Below w.heap.size w wc))
  case first =>
    have H := HC2.out
    clear HC2
    by_cases c5 : (a0_0.size : Int) < 1
    · rw [if_pos c5] at H
      have c5b0 : decide ((a0_0.size : Int) < 1) = true := decide_eq_true c5
      have c5b1 : decide (a0_0.size < 1) = true := decide_eq_true (by omega)
      clear c5
      (first | rw [c5b0] | (simp only [i64_w, i32_w]; rw [c5b0]) | skip)
      have H' := Aside0.mk H
      clear H
      go_wp2
      go_meet
      case rel => exact ⟨_, (true), (by first | rfl | (simp; done) | (simp [*]; done)), H', ⟨by first | omega | exact Nat.le_refl _⟩, ⟨by (with_reducible repeat (first | refine blk_drewN ?_ _ | refine blk_drew ?_ | refine blk_alloc ?_ _)); exact BK124.out⟩, ⟨by repeat (first | (with_reducible first | exact HB.out | apply below_alloc | apply pw_below_drewN | apply below_drew1 | refine below_set ?_ GE124.out) | exact HB.out)⟩⟩
    · rw [if_neg c5] at H
      have c5b0 : decide ((a0_0.size : Int) < 1) = false := decide_eq_false c5
      have c5b1 : decide (a0_0.size < 1) = false := decide_eq_false (by omega)
      clear c5
      (first | rw [c5b0] | (simp only [i64_w, i32_w]; rw [c5b0]) | skip)
      have H' := Aside0.mk H
      clear H
      go_wp2
      go_meet
      case rel => exact ⟨_, (decide ((a0_0.size : Int) > 20)), (by first | rfl | (simp; done) | (simp [*]; done)), H', ⟨by first | omega | exact Nat.le_refl _⟩, ⟨by (with_reducible repeat (first | refine blk_drewN ?_ _ | refine blk_drew ?_ | refine blk_alloc ?_ _)); exact BK124.out⟩, ⟨by repeat (first | (with_reducible first | exact HB.out | apply below_alloc | apply pw_below_drewN | apply below_drew1 | refine below_set ?_ GE124.out) | exact HB.out)⟩⟩
  case rest =>
    clear HC2
    try clear c1
    try clear p2
    try clear c5
    try clear c5b0
    try clear c5b1
    try clear hcz4_0
    try clear hcz4_1
    try clear hcz4_2
    try clear hfz4_0
    try clear hfz4_1
    try clear hfz4_2
    obtain ⟨kq, x15_1, rfl, HA, HJ1, BK124, HB⟩ := hcut
    cases kq with
    | zero => exact absurd HA.out (by simp [inode_PutEntry.j0])
    | succ kj1 =>
      have H := HA.out
      clear HA
      simp only [inode_PutEntry.j0] at H
      by_cases c6 : x15_1 = true
      · subst c6
        have H1 : (some (([] : List Int), 1)) = some (r1, r2) := by rw [if_pos rfl] at H; exact H
        clear H
        have H := H1
        clear H1
        simp only [Option.some.injEq, Prod.mk.injEq] at H
        obtain ⟨rfl, rfl⟩ := H
        go_wp2
        go_ret2
        exact ⟨_, by first | rfl | (simp [errW_none, errW_some] <;> rfl) | (simp [*, errW_none, errW_some] <;> rfl), Kd.V_nil _ _ _ _ _, by repeat (first | (with_reducible first | exact HB.out | apply below_alloc | apply pw_below_drewN | apply below_drew1 | refine below_set ?_ GE124.out) | exact HB.out)⟩
      · replace c6 := Bool.eq_false_iff.mpr c6
        subst c6
        have H1 : ((num_PutText.f ([] : List Int) a0_0).bind fun bt125 => ((inode_put.f kj1 bt125.1 (([(⟨a0_1, 4, 1, 2147483647⟩ : S53), (⟨a0_2, 1, 1, 2⟩ : S53)] : List (S53)))).bind fun bt132 => ((inode_told.f bt132.1 bt132.2).bind fun bt136 => (some (bt136.1, bt136.2))))) = some (r1, r2) := by rw [if_neg (show ¬ (false = true) by decide)] at H; exact H
        clear H
        have H := H1
        clear H1
        replace H := Option.bind_eq_some_iff.mp H
        obtain ⟨⟨t125, t126⟩, A70, H⟩ := H
        replace H : ((inode_put.f kj1 t125 (([(⟨a0_1, 4, 1, 2147483647⟩ : S53), (⟨a0_2, 1, 1, 2⟩ : S53)] : List (S53)))).bind fun bt132 => ((inode_told.f bt132.1 bt132.2).bind fun bt136 => (some (bt136.1, bt136.2)))) = some (r1, r2) := H
        have A7 := Aside0.mk A70
        clear A70
        obtain ⟨y129, hy129⟩ : ∃ y_ : List (S53), y_ = (([(⟨a0_1, 4, 1, 2147483647⟩ : S53), (⟨a0_2, 1, 1, 2⟩ : S53)] : List (S53))) := ⟨_, rfl⟩
        replace H : ((inode_put.f kj1 t125 y129).bind fun bt132 => ((inode_told.f bt132.1 bt132.2).bind fun bt136 => (some (bt136.1, bt136.2)))) = some (r1, r2) := by first | (rw [hy129]; with_reducible exact H) | (have H2_ := (Option.bind_some _ _).symm.trans H; rw [hy129]; with_reducible exact H2_) | (have H2_ := (Option.bind_some _ _).symm.trans H; with_reducible exact H2_) | with_reducible exact H | (rw [hy129]; exact H) | exact H
        have Ny129 := Aside0.mk hy129
        clear hy129
        replace H := Option.bind_eq_some_iff.mp H
        obtain ⟨⟨t132, t135⟩, A80, H⟩ := H
        replace H : ((inode_told.f t132 t135).bind fun bt136 => (some (bt136.1, bt136.2))) = some (r1, r2) := H
        have A8 := Aside0.mk A80
        clear A80
        replace H := Option.bind_eq_some_iff.mp H
        obtain ⟨⟨t136, t139⟩, A90, H⟩ := H
        replace H : (some (t136, t139)) = some (r1, r2) := H
        have A9 := Aside0.mk A90
        clear A90
        simp only [Option.some.injEq, Prod.mk.injEq] at H
        obtain ⟨rfl, rfl⟩ := H
        have hcz10_0 : wc.cell? ⟨gb124, 0, none⟩ = some (.string a0_0) := (blk_cell BK124.out 0).trans rfl
        have hcz10_1 : wc.cell? ⟨gb124, 1, none⟩ = some (.int .i64 a0_1) := (blk_cell BK124.out 1).trans rfl
        have hcz10_2 : wc.cell? ⟨gb124, 2, none⟩ = some (.int .i64 a0_2) := (blk_cell BK124.out 2).trans rfl
        have hfz10_0 := blk_frozen BK124.out 0
        have hfz10_1 := blk_frozen BK124.out 1
        have hfz10_2 := blk_frozen BK124.out 2
        go_wp2_with (first | ((with_reducible refine gate_callee (f := 29) rfl ?_); refine goesL_ (some 19) rfl rfl Try.func29 (by kernel_rfl) rfl #[.slice none 0 0, .string a0_0] rfl (by (try simp only [List.map_toArray, List.map_cons, List.map_nil]); first | done | rfl | (simp only [List.length_drop, List.length_take]; rfl)) ?_; (refine (num_PutText.calls _ _ ([] : List Int) a0_0 t125 t126 _ ?side1 ?side2 A7.out).mono ?_); (case side1 => exact Kd.C_nil _ _); (case side2 => exact Nat.le_refl _); rintro e w11 ⟨v127, rfl, ho0, hb⟩; refine ⟨_, rfl, ?_⟩; have n0_ := Aside0.mk (Kd.R_lower (Kd.R_newM (M := fun k_ => (w.heap.size ≤ k_)) ho0 (below_size (by repeat (first | (with_reducible first | exact HB.out | apply below_alloc | apply pw_below_drewN | apply below_drew1 | refine below_set ?_ GE124.out) | exact HB.out))) (fun k_ h_ => h_)) (below_size (by repeat (first | (with_reducible first | exact HB.out | apply below_alloc | apply pw_below_drewN | apply below_drew1 | refine below_set ?_ GE124.out) | exact HB.out)))); have n1_ := Aside0.mk (blk_below (g := gb124) (o := .cells #[.string a0_0, .int .i64 a0_1, .int .i64 a0_2] 25 (0, 0)) (by (with_reducible repeat (first | refine blk_drewN ?_ _ | refine blk_drew ?_ | refine blk_alloc ?_ _)); exact BK124.out) hb); have n2_ := Aside0.mk (below_step (by repeat (first | (with_reducible first | exact HB.out | apply below_alloc | apply pw_below_drewN | apply below_drew1 | refine below_set ?_ GE124.out) | exact HB.out)) hb); clear BK124; clear HB; have HO128 := n0_; have BK124 := n1_; have HB := n2_; clear n0_ n1_ n2_; (try clear hb); (try clear hb2); (try clear hk); (try clear hi); (try clear ho0); have hcz12_0 : w11.cell? ⟨gb124, 0, none⟩ = some (.string a0_0) := (blk_cell BK124.out 0).trans rfl; have hcz12_1 : w11.cell? ⟨gb124, 1, none⟩ = some (.int .i64 a0_1) := (blk_cell BK124.out 1).trans rfl; have hcz12_2 : w11.cell? ⟨gb124, 2, none⟩ = some (.int .i64 a0_2) := (blk_cell BK124.out 2).trans rfl; have hfz12_0 := blk_frozen BK124.out 0; have hfz12_1 := blk_frozen BK124.out 1; have hfz12_2 := blk_frozen BK124.out 2) | ((with_reducible refine gate_dst (N := 29) rfl ?_); refine Kd.R_lit k53 _ 53 ?hg (N := 29) ?hd (xs := ([(⟨a0_1, 4, 1, 2147483647⟩ : S53), (⟨a0_2, 1, 1, 2⟩ : S53)] : List (S53))) (inner := [.int .i64 a0_1, .int .i64 4, .int .i64 1, .int .i64 2147483647, .int .i64 a0_2, .int .i64 1, .int .i64 1, .int .i64 2]) (ok := fun _ => True) (okp := fun _ => True) ?hr ?hp (fun _ hk => hk) trivial (Below.refl _ _) (Nat.le_refl _) (by simp) ?_; (case hd => rfl); (case hg => rfl); (case hr => first | (go_simp; done) | (go_simp; rfl)); (case hp => exact (Reps.c4 (show Kd.M k53 _ _ _ (⟨a0_1, 4, 1, 2147483647⟩ : S53) [.int .i64 a0_1, .int .i64 4, .int .i64 1, .int .i64 2147483647] from (k53_mkM _ _ _ (⟨a0_1, 4, 1, 2147483647⟩ : S53) )) (Reps.c4 (show Kd.M k53 _ _ _ (⟨a0_2, 1, 1, 2⟩ : S53) [.int .i64 a0_2, .int .i64 1, .int .i64 1, .int .i64 2] from (k53_mkM _ _ _ (⟨a0_2, 1, 1, 2⟩ : S53) )) (Reps.none _ _)))); intro v130 w13 ho14 hb hg_ hnew_; clear hg_ hnew_; (first | rw [← Ny129.out] at ho14 | (simp only [Int.reduceToNat] at ho14; rw [← Ny129.out] at ho14)); have n0_ := Aside0.mk (Kd.R_below (by (with_reducible repeat (first | apply Kd.R_alloc | apply Kd.R_drewN | apply Kd.R_drew)); exact HO128.out) hb); have n1_ := Aside0.mk (Kd.R_lower (Kd.R_newM (M := fun k_ => (w.heap.size ≤ k_)) ho14 (below_size (by repeat (first | (with_reducible first | exact HB.out | apply below_alloc | apply pw_below_drewN | apply below_drew1 | refine below_set ?_ GE124.out) | exact HB.out))) (fun k_ h_ => h_)) (below_size (by repeat (first | (with_reducible first | exact HB.out | apply below_alloc | apply pw_below_drewN | apply below_drew1 | refine below_set ?_ GE124.out) | exact HB.out)))); have n2_ := Aside0.mk (blk_below (g := gb124) (o := .cells #[.string a0_0, .int .i64 a0_1, .int .i64 a0_2] 25 (0, 0)) (by (with_reducible repeat (first | refine blk_drewN ?_ _ | refine blk_drew ?_ | refine blk_alloc ?_ _)); exact BK124.out) hb); have n3_ := Aside0.mk (below_step (by repeat (first | (with_reducible first | exact HB.out | apply below_alloc | apply pw_below_drewN | apply below_drew1 | refine below_set ?_ GE124.out) | exact HB.out)) hb); clear HO128; clear BK124; clear HB; have HO128 := n0_; have HO131 := n1_; have BK124 := n2_; have HB := n3_; clear n0_ n1_ n2_ n3_; clear hb ho14; obtain ⟨Ao15, co15, eo15⟩ := Kd.R_slice HO128.out; subst eo15; obtain ⟨Ao16, co16, eo16⟩ := Kd.R_slice HO131.out; subst eo16) | ((with_reducible refine gate_callee (f := 27) rfl ?_); refine goesL_ (some 30) rfl rfl Try.func27 (by kernel_rfl) rfl #[.slice Ao15 t125.length co15, .slice Ao16 y129.length co16] rfl (by (try simp only [List.map_toArray, List.map_cons, List.map_nil]); first | done | rfl | (simp only [List.length_drop, List.length_take]; rfl)) ?_; (with_reducible refine (inode_put.calls kj1 (fun k_ => some k_ = (.slice Ao15 t125.length co15 : Value).ownBlock) _ _ t125 _ _ y129 t132 t135 _ ?side1 ?side2 ?side3 A8.out).mono ?_); (case side1 => exact Kd.R_V (Kd.R_tight rfl (Kd.R_types (Kd.R_apart' (HO128.out) (Kd.R_typed HO131.out) (by decide)) BK124.out (by decide)))); (case side2 => repeat (first | exact (Kd.R_reads' HO131.out).2.2 | (with_reducible refine Kd.C_alloc ?_ _) | (with_reducible refine Kd.C_drewN ?_ _) | (with_reducible refine Kd.C_drew ?_))); (case side3 => exact (Kd.R_reads' HO131.out).2.1); rintro e w17 ⟨v133, rfl, ho0, hb⟩; refine ⟨_, rfl, ?_⟩; have n0_ := Aside0.mk (Kd.R_below (by (with_reducible repeat (first | apply Kd.R_alloc | apply Kd.R_drewN | apply Kd.R_drew)); exact HO128.out) hb); have n1_ := Aside0.mk (Kd.R_below (by (with_reducible repeat (first | apply Kd.R_alloc | apply Kd.R_drewN | apply Kd.R_drew)); exact HO131.out) hb); have n2_ := Aside0.mk (Kd.V_lower (Kd.V_mono (ok' := fun k_ => (w.heap.size ≤ k_) ∧ some k_ ≠ (.slice Ao16 y129.length co16 : Value).ownBlock ∧ k_ ≠ gb124) ho0 (fun k_ hk_ => ⟨Or.elim hk_ (fun hs_ => ((Kd.R_types (Kd.R_apart' (HO128.out) (Kd.R_typed HO131.out) (by decide)) BK124.out (by decide)).1 k_ hs_.symm).1.1.1) (fun hn_ => (Nat.le_trans (below_size (by repeat (first | (with_reducible first | exact HB.out | apply below_alloc | apply pw_below_drewN | apply below_drew1 | refine below_set ?_ GE124.out) | exact HB.out))) hn_)), Or.elim hk_ (fun hs_ => ((Kd.R_types (Kd.R_apart' (HO128.out) (Kd.R_typed HO131.out) (by decide)) BK124.out (by decide)).1 k_ hs_.symm).1.2) (fun hn_ => (Kd.fresh' (Kd.R_lt (by (with_reducible repeat (first | apply Kd.R_alloc | apply Kd.R_drewN | apply Kd.R_drew)); exact HO131.out)) k_ hn_)), Or.elim hk_ (fun hs_ => ((Kd.R_types (Kd.R_apart' (HO128.out) (Kd.R_typed HO131.out) (by decide)) BK124.out (by decide)).1 k_ hs_.symm).2) (fun hn_ => (Kd.freshB (g := gb124) (o := .cells #[.string a0_0, .int .i64 a0_1, .int .i64 a0_2] 25 (0, 0)) (by (with_reducible repeat (first | refine blk_drewN ?_ _ | refine blk_drew ?_ | refine blk_alloc ?_ _)); exact BK124.out) k_ hn_))⟩)) (below_size (by repeat (first | (with_reducible first | exact HB.out | apply below_alloc | apply pw_below_drewN | apply below_drew1 | refine below_set ?_ GE124.out) | exact HB.out)))); have n3_ := Aside0.mk (blk_below (g := gb124) (o := .cells #[.string a0_0, .int .i64 a0_1, .int .i64 a0_2] 25 (0, 0)) (by (with_reducible repeat (first | refine blk_drewN ?_ _ | refine blk_drew ?_ | refine blk_alloc ?_ _)); exact BK124.out) hb); have n4_ := Aside0.mk (below_step (by repeat (first | (with_reducible first | exact HB.out | apply below_alloc | apply pw_below_drewN | apply below_drew1 | refine below_set ?_ GE124.out) | exact HB.out)) hb); clear HO128; clear HO131; clear BK124; clear HB; have HO128 := n0_; have HO131 := n1_; have HO134 := n2_; have BK124 := n3_; have HB := n4_; clear n0_ n1_ n2_ n3_ n4_; (try clear hb); (try clear hb2); (try clear hk); (try clear hi); (try clear ho0); obtain ⟨Ao18, co18, eo18⟩ := Kd.V_slice HO134.out; subst eo18) | ((with_reducible refine gate_callee (f := 26) rfl ?_); refine goesL_ (some 33) rfl rfl Try.func26 (by kernel_rfl) rfl #[.slice Ao18 t132.length co18, .bool t135] rfl (by (try simp only [List.map_toArray, List.map_cons, List.map_nil]); first | done | rfl | (simp only [List.length_drop, List.length_take]; rfl)) ?_; (with_reducible refine (inode_told.calls (fun k_ => ((w.heap.size ≤ k_) ∧ (some k_ ≠ (.slice Ao16 y129.length co16 : Value).ownBlock ∧ k_ ≠ gb124))) _ _ t132 t135 t136 t139 _ ?side1 A9.out).mono ?_); (case side1 => exact HO134.out); rintro e w19 ⟨v137, rfl, ho0, hb⟩; refine ⟨_, rfl, ?_⟩; have n0_ := Aside0.mk (Kd.R_below (by (with_reducible repeat (first | apply Kd.R_alloc | apply Kd.R_drewN | apply Kd.R_drew)); exact HO128.out) hb); have n1_ := Aside0.mk (Kd.R_below (by (with_reducible repeat (first | apply Kd.R_alloc | apply Kd.R_drewN | apply Kd.R_drew)); exact HO131.out) hb); have n2_ := Aside0.mk (Kd.V_below (by (with_reducible repeat (first | apply Kd.V_alloc | apply Kd.V_drewN | apply Kd.V_drew)); exact HO134.out) hb); have n3_ := Aside0.mk (Kd.V_lower (Kd.V_mono (ok' := fun k_ => (w.heap.size ≤ k_) ∧ some k_ ≠ (.slice Ao16 y129.length co16 : Value).ownBlock ∧ k_ ≠ gb124) ho0 (fun k_ hk_ => ⟨Or.elim hk_ (fun hs_ => hs_.1) (fun hn_ => (Nat.le_trans (below_size (by repeat (first | (with_reducible first | exact HB.out | apply below_alloc | apply pw_below_drewN | apply below_drew1 | refine below_set ?_ GE124.out) | exact HB.out))) hn_)), Or.elim hk_ (fun hs_ => hs_.2.1) (fun hn_ => (Kd.fresh' (Kd.R_lt (by (with_reducible repeat (first | apply Kd.R_alloc | apply Kd.R_drewN | apply Kd.R_drew)); exact HO131.out)) k_ hn_)), Or.elim hk_ (fun hs_ => hs_.2.2) (fun hn_ => (Kd.freshB (g := gb124) (o := .cells #[.string a0_0, .int .i64 a0_1, .int .i64 a0_2] 25 (0, 0)) (by (with_reducible repeat (first | refine blk_drewN ?_ _ | refine blk_drew ?_ | refine blk_alloc ?_ _)); exact BK124.out) k_ hn_))⟩)) (below_size (by repeat (first | (with_reducible first | exact HB.out | apply below_alloc | apply pw_below_drewN | apply below_drew1 | refine below_set ?_ GE124.out) | exact HB.out)))); have n4_ := Aside0.mk (blk_below (g := gb124) (o := .cells #[.string a0_0, .int .i64 a0_1, .int .i64 a0_2] 25 (0, 0)) (by (with_reducible repeat (first | refine blk_drewN ?_ _ | refine blk_drew ?_ | refine blk_alloc ?_ _)); exact BK124.out) hb); have n5_ := Aside0.mk (below_step (by repeat (first | (with_reducible first | exact HB.out | apply below_alloc | apply pw_below_drewN | apply below_drew1 | refine below_set ?_ GE124.out) | exact HB.out)) hb); clear HO128; clear HO131; clear HO134; clear BK124; clear HB; have HO128 := n0_; have HO131 := n1_; have HO134 := n2_; have HO138 := n3_; have BK124 := n4_; have HB := n5_; clear n0_ n1_ n2_ n3_ n4_ n5_; (try clear hb); (try clear hb2); (try clear hk); (try clear hi); (try clear ho0)))
        go_ret2
        exact ⟨_, by first | rfl | (simp [errW_none, errW_some] <;> rfl) | (simp [*, errW_none, errW_some] <;> rfl), by (with_reducible repeat (first | apply Kd.V_alloc | apply Kd.V_drewN | apply Kd.V_drew)); exact Kd.V_mono HO138.out (fun _ hk => hk.1), by repeat (first | (with_reducible first | exact HB.out | apply below_alloc | apply pw_below_drewN | apply below_drew1 | refine below_set ?_ GE124.out) | exact HB.out)⟩

end Go.Proofs.Ytpahlfjfadammaa.P
