/- The law SuperWrites, walked: both functions write the same. -/
import Derived.Test.YtjpebckmjlmkmaaSup7
import Derived.Test.YtjpebckmjlmkmaaSteps
import Derived.Test.YtjpebckmjlmkmaaPx2
namespace Go.Proofs.Ytjpebckmjlmkmaa.P
open Go.RowKit Go.Proofs.YtjpebckmjlmkmaaW.PrintWords Go.Proofs.YtjpebckmjlmkmaaW.PrintLast Go.Proofs.YtjpebckmjlmkmaaW.PrintMore Go.Proofs.Ytjpebckmjlmkmaa.NumLem Go.Proofs.Ytjpebckmjlmkmaa.SealLem Go.Proofs.Ytjpebckmjlmkmaa.Sep
set_option linter.unusedVariables false
set_option linter.unusedSimpArgs false
/-- What the law's last words read. -/
def SW (B : Nat) (C : Array Value) (A1 : Option Addr) (m1 : Nat) (l1 : List Int) (A2 : Option Addr) (m2 : Nat) (l2 : List Int) (w : World) : Prop := w.heap[B]? = some (.cells C 28 (0, 0)) ∧ Kd.C (Kd.int .u8) w A1 m1 l1 ∧ Kd.C (Kd.int .u8) w A2 m2 l2
theorem SW.below {B : Nat} {C : Array Value} {A1 A2 : Option Addr} {m1 m2 : Nat} {l1 l2 : List Int} {w w' : World} (h : SW B C A1 m1 l1 A2 m2 l2 w) (hb : Below w.heap.size w w') : SW B C A1 m1 l1 A2 m2 l2 w' :=
  ⟨blk_below h.1 hb, Kd.C_below h.2.1 hb, Kd.C_below h.2.2 hb⟩
theorem SW.load {B : Nat} {C : Array Value} {A1 A2 : Option Addr} {m1 m2 : Nat} {l1 l2 : List Int} (hz : C.size = 35) (w : World) (h : SW B C A1 m1 l1 A2 m2 l2 w) : (Instr.loadAt 28 (.pointer (some ⟨B, 0, none⟩))).run Try.prog w = .ok (.agg C) w := by
  have hr : w.rangeAt B 0 C.toList := by
    have := World.rangeAt_of_block h.1 0 C.size
    rwa [Nat.zero_add, Array.extract_size] at this
  have := run_loadAt_mid (P := Try.prog) w B 0 28 C.toList _ hr Try.underlying28 rfl (by rw [Array.length_toList, hz]; rfl)
  rwa [Array.toArray_toList] at this
theorem SW.yields {ops : Array Oper} {B : Nat} {C : Array Value} {A1 A2 : Option Addr} {m1 m2 : Nat} {l1 l2 : List Int} {op : Oper} {a : Act} (x : Operand) (ho : op.op = .load 28 x) (hz : C.size = 35) (hw : Region.wanted op (yielded ops a.tmps) = true) (hx : a.eval x = .pointer (some ⟨B, 0, none⟩)) :
    YieldsIf Try.prog ops (SW B C A1 m1 l1 A2 m2 l2) op (.agg C) a :=
  .inl ⟨hw, fun w h => by
    unfold execOp
    simp only [ho, hx, SW.load hz w h, Sem.run_bind, Result.andThen_ok]
    rfl⟩
theorem SW.str1 {ops : Array Oper} {B : Nat} {C : Array Value} {A1 A2 : Option Addr} {m1 m2 : Nat} {l1 l2 : List Int} {op : Oper} {a : Act} (c : Nat) (x : Operand) (ho : op.op = .convert 22 9 x) (hw : Region.wanted op (yielded ops a.tmps) = true) (hx : a.eval x = .slice A1 m1 c) :
    YieldsIf Try.prog ops (SW B C A1 m1 l1 A2 m2 l2) op (.string (strOfNums l1)) a :=
  .inl ⟨hw, fun w h => by
    have := Kd.C_string (P := Try.prog) (c := c) Try.underlying22 Try.underlying5 Try.underlying9 h.2.1
    unfold execOp
    simp only [ho, hx]
    go_simp⟩
theorem SW.str2 {ops : Array Oper} {B : Nat} {C : Array Value} {A1 A2 : Option Addr} {m1 m2 : Nat} {l1 l2 : List Int} {op : Oper} {a : Act} (c : Nat) (x : Operand) (ho : op.op = .convert 22 9 x) (hw : Region.wanted op (yielded ops a.tmps) = true) (hx : a.eval x = .slice A2 m2 c) :
    YieldsIf Try.prog ops (SW B C A1 m1 l1 A2 m2 l2) op (.string (strOfNums l2)) a :=
  .inl ⟨hw, fun w h => by
    have := Kd.C_string (P := Try.prog) (c := c) Try.underlying22 Try.underlying5 Try.underlying9 h.2.2
    unfold execOp
    simp only [ho, hx]
    go_simp⟩
def swl_T : Bool × List (List Nat × List Nat) := (true, [([], []), ([0], [0]), ([1], [1]), ([2, 1, 1], [1, 2]), ([1], [1]), ([4, 3, 1], [1, 4]), ([3, 5, 1], [1, 3, 5]), ([1, 6], [1, 6]), ([7, 5], [7]), ([8], [8]), ([9, 8], [8, 9]), ([8], [8]), ([11, 8], [8, 11]), ([10, 12, 8], [8, 10, 12]), ([8, 13], [8, 13]), ([14, 8], [14]), ([15], [15]), ([15], [15]), ([16, 17, 15], [15, 16, 17]), ([15, 18], [15, 18]), ([19, 15, 0, 1, 2, 3, 4, 5, 6, 7, 8, 9, 10, 11, 12, 13, 14, 15, 16, 17, 18, 19], [19])])
def swl_B : List Nat := [0, 1, 3, 7, 3, 31, 63, 127, 255, 511, 1023, 511, 2559, 8191, 16383, 32767, 65535, 65535, 262143, 524287, 1048575]
theorem swl_tab : rtab .any (opsOf Try.f7 4) = swl_T := by kernel_rfl
theorem swl_bits : waitsOk swl_T.2 swl_B = true := by kernel_rfl
set_option maxHeartbeats 4000000 in
set_option maxRecDepth 100000 in
theorem law_writes (s : SupS) (hl : s.vols.length = 8) (hn : ∀ v ∈ s.vols, v.name.size ≤ 9223372036854775807) (slot : Int) (w : World) :
    Calls Try.prog 7 #[.agg s.cells.toArray, .int .i64 slot] w fun e w' => e = .returned (.bool true) ∧ Below w.heap.size w w' := by
  obtain ⟨C, hC⟩ : ∃ C, s.cells.toArray = C := ⟨_, rfl⟩
  have hsz : C.size = 35 := by rw [← hC, List.size_toArray, cells_length s hl]
  have HM1 := Aside0.mk (fun W => hC ▸ super_May.st s hl hn W)
  have HM2 := Aside0.mk (fun W => hC ▸ ref_May.st s hl hn W)
  have HW1 := Aside0.mk (fun {w0 W : World} {ps : List HP} (h : St w0 W ps) => hC ▸ super_Write.st s hl hn slot h)
  have HW2 := Aside0.mk (fun {w0 W : World} {ps : List HP} (h : St w0 W ps) => hC ▸ ref_Write.st s hl hn slot h)
  have HS := Aside0.mk ((St.start w).alloc_ C 28)
  rw [hC]
  have H35 := Aside0.mk hsz
  obtain ⟨r, hr⟩ : ∃ r, writeR s slot = r := ⟨_, rfl⟩
  rw [hr] at HW1 HW2
  obtain ⟨b, hb⟩ : ∃ b, mayR s = b := ⟨_, rfl⟩
  rw [hb] at HM1 HM2
  obtain ⟨l, q⟩ := r
  clear hn hl hC hsz hr hb
  go_enter Try.func7, Try.ntmps7
  go_wp2_with fail
  refine (cambiumlaw07_shown.calls true _ rfl).mono ?_
  rintro e w1 ⟨rfl, hb⟩
  have HS1 := Aside0.mk (HS.out.below_ hb)
  have HRG := Aside0.mk (show w1.rangeAt w.heap.size 0 C.toList from by
    have := World.rangeAt_of_block HS1.out.blk_is 0 C.size
    rwa [Nat.zero_add, Array.extract_size] at this)
  clear hb HS
  go_wp2_with (refine wpList_load_mid rfl 28 _ rfl w.heap.size 0 rfl C.toList _ HRG.out Try.underlying28 rfl (by rw [Array.length_toList, H35.out]; rfl) ?_)
  refine (HW1.out HS1.out).mono ?_
  rintro e w2 ⟨A1, m1, c1, rfl, hs⟩
  have HS2 := Aside0.mk hs
  have HRG2 := Aside0.mk (show w2.rangeAt w.heap.size 0 C.toList from by
    have := World.rangeAt_of_block HS2.out.swap.blk_is 0 C.size
    rwa [Nat.zero_add, Array.extract_size] at this)
  clear hs HS1 HRG HW1
  go_wp2_with (refine wpList_load_mid rfl 28 _ rfl w.heap.size 0 rfl C.toList _ HRG2.out Try.underlying28 rfl (by rw [Array.length_toList, H35.out]; rfl) ?_)
  refine (HW2.out HS2.out).mono ?_
  rintro e w3 ⟨A2, m2, c2, rfl, hs⟩
  have HS3 := Aside0.mk hs
  have HSW := Aside0.mk (show SW w.heap.size C A1 m1 l A2 m2 l w3 from ⟨(hs.front 2).blk_is, hs.swap.row_C.2.2, hs.row_C.2.2⟩)
  clear hs HS2 HRG2 HW2
  go_wp2_with fail
  refine stepStart (SW w.heap.size C A1 m1 l A2 m2 l) 21 [0, 1, 2, 4, 3, 5, 6, 7, 8, 9, 11, 10, 12, 13, 14, 15, 16, 17, 18, 19, 20] swl_tab swl_bits (by kernel_rfl) rfl (HSW.out.below (below_drew (Below.refl _ _))) (fun HT_ HW_ hHeld => ?_)
  iterate 2 (refine stepPu (v := ?_) rfl rfl (any_of HT_.out (by kernel_rfl)) (fun _ _ _ h => h) (Or.inl ⟨by rfl, ?_⟩) (a' := ?_) ?_ ?_; rotate_left; (· intro w'; go_simp; with_reducible rfl); rotate_left; (· (simp only [Act.put, List.setIfInBounds_toArray, List.set_cons_zero, List.set_cons_succ, i64_w, i32_w]; rfl)))
  (refine stepLd (v := _) rfl rfl (take_ofW HT_.out HW_.out (by kernel_rfl)) (fun _ _ _ h => h) (SW.yields (.tmp 2) rfl H35.out (by rfl) rfl) hHeld (a' := ?_) ?_ ?_; rotate_left; (· (simp only [Act.put, List.setIfInBounds_toArray, List.set_cons_zero, List.set_cons_succ, i64_w, i32_w]; rfl)))
  (refine stepLd (v := _) rfl rfl (take_ofW HT_.out HW_.out (by kernel_rfl)) (fun _ _ _ h => h) (SW.yields (.tmp 2) rfl H35.out (by rfl) rfl) hHeld (a' := ?_) ?_ ?_; rotate_left; (· (simp only [Act.put, List.setIfInBounds_toArray, List.set_cons_zero, List.set_cons_succ, i64_w, i32_w]; rfl)))
  refine stepOne rfl rfl (one_of HT_.out (by kernel_rfl)) (by decide) (fun K hK => ?_)
  refine goes_ Try.func21 (by kernel_rfl) rfl #[.agg C] (by rfl) rfl rfl (by first | rfl | (simp only [List.map_toArray, List.map_cons, List.map_nil]; rfl)) ?_
  with_reducible refine (HM1.out _).mono ?_
  rintro e w4 ⟨rfl, hb⟩
  refine ⟨_, rfl, ?_⟩
  have HSW4 := Aside0.mk ((HSW.out.below (below_drew (Below.refl _ _))).below hb)
  have HS4 := Aside0.mk (HS3.out.drew.below_ hb)
  clear hb
  refine hK.out _ _ (HSW4.out) (fun hHeld => ?_)
  clear hK K
  refine norm_ (a' := ?_) ?_ ?_
  rotate_left
  · show Act.put _ (some 26) _ = _
    simp only [Act.put, List.setIfInBounds_toArray, List.set_cons_zero, List.set_cons_succ, i64_w, i32_w]
    rfl
  refine stepOne rfl rfl (one_of HT_.out (by kernel_rfl)) (by decide) (fun K hK => ?_)
  refine goes_ Try.func22 (by kernel_rfl) rfl #[.agg C] (by rfl) rfl rfl (by first | rfl | (simp only [List.map_toArray, List.map_cons, List.map_nil]; rfl)) ?_
  with_reducible refine (HM2.out _).mono ?_
  rintro e w5 ⟨rfl, hb⟩
  refine ⟨_, rfl, ?_⟩
  have HSW5 := Aside0.mk (HSW4.out.below hb)
  have HS5 := Aside0.mk (HS4.out.below_ hb)
  clear hb
  refine hK.out _ _ (HSW5.out) (fun hHeld => ?_)
  clear hK K
  refine norm_ (a' := ?_) ?_ ?_
  rotate_left
  · show Act.put _ (some 28) _ = _
    simp only [Act.put, List.setIfInBounds_toArray, List.set_cons_zero, List.set_cons_succ, i64_w, i32_w]
    rfl
  iterate 5 (refine stepPu (v := ?_) rfl rfl (any_of HT_.out (by kernel_rfl)) (fun _ _ _ h => h) (Or.inl ⟨by rfl, ?_⟩) (a' := ?_) ?_ ?_; rotate_left; (· intro w'; go_simp; with_reducible rfl); rotate_left; (· (simp only [Act.put, List.setIfInBounds_toArray, List.set_cons_zero, List.set_cons_succ, i64_w, i32_w]; rfl)))
  (refine stepLd (v := _) rfl rfl (take_ofW HT_.out HW_.out (by kernel_rfl)) (fun _ _ _ h => h) (SW.str1 c1 (.tmp 32) rfl (by rfl) rfl) hHeld (a' := ?_) ?_ ?_; rotate_left; (· (simp only [Act.put, List.setIfInBounds_toArray, List.set_cons_zero, List.set_cons_succ, i64_w, i32_w]; rfl)))
  (refine stepLd (v := _) rfl rfl (take_ofW HT_.out HW_.out (by kernel_rfl)) (fun _ _ _ h => h) (SW.str2 c2 (.tmp 34) rfl (by rfl) rfl) hHeld (a' := ?_) ?_ ?_; rotate_left; (· (simp only [Act.put, List.setIfInBounds_toArray, List.set_cons_zero, List.set_cons_succ, i64_w, i32_w]; rfl)))
  iterate 8 (refine stepPu (v := ?_) rfl rfl (any_of HT_.out (by kernel_rfl)) (fun _ _ _ h => h) (Or.inl ⟨by rfl, ?_⟩) (a' := ?_) ?_ ?_; rotate_left; (· intro w'; go_simp; with_reducible rfl); rotate_left; (· (simp only [Act.put, List.setIfInBounds_toArray, List.set_cons_zero, List.set_cons_succ, i64_w, i32_w]; rfl)))
  refine done_ (done_of HT_.out (by kernel_rfl)) ?_
  go_wp2_with fail
  go_ret
  exact ⟨rfl, HS5.out.below⟩
theorem SuperWrites_law (z0f0_n : Int) (z0f1_n : Int) (z0f2_n : Int) (z0f3_f0_f0_n : ByteArray) (z0f3_f0_f1_n : Bool) (z0f3_f0_f2_n : Int) (z0f3_f0_f3_n : Int) (z0f3_f1_f0_n : ByteArray) (z0f3_f1_f1_n : Bool) (z0f3_f1_f2_n : Int) (z0f3_f1_f3_n : Int) (z0f3_f2_f0_n : ByteArray) (z0f3_f2_f1_n : Bool) (z0f3_f2_f2_n : Int) (z0f3_f2_f3_n : Int) (z0f3_f3_f0_n : ByteArray) (z0f3_f3_f1_n : Bool) (z0f3_f3_f2_n : Int) (z0f3_f3_f3_n : Int) (z0f3_f4_f0_n : ByteArray) (z0f3_f4_f1_n : Bool) (z0f3_f4_f2_n : Int) (z0f3_f4_f3_n : Int) (z0f3_f5_f0_n : ByteArray) (z0f3_f5_f1_n : Bool) (z0f3_f5_f2_n : Int) (z0f3_f5_f3_n : Int) (z0f3_f6_f0_n : ByteArray) (z0f3_f6_f1_n : Bool) (z0f3_f6_f2_n : Int) (z0f3_f6_f3_n : Int) (z0f3_f7_f0_n : ByteArray) (z0f3_f7_f1_n : Bool) (z0f3_f7_f2_n : Int) (z0f3_f7_f3_n : Int) (z1n : Int) (w : World) (h0 : Aside0 ((Lit.int .i64 z0f0_n).wf = true ∧ (Lit.int .i64 z0f1_n).wf = true ∧ (Lit.int .i64 z0f2_n).wf = true ∧ z0f3_f0_f0_n.size ≤ maxLen ∧ True ∧ (Lit.int .i64 z0f3_f0_f2_n).wf = true ∧ (Lit.int .i64 z0f3_f0_f3_n).wf = true ∧ z0f3_f1_f0_n.size ≤ maxLen ∧ True ∧ (Lit.int .i64 z0f3_f1_f2_n).wf = true ∧ (Lit.int .i64 z0f3_f1_f3_n).wf = true ∧ z0f3_f2_f0_n.size ≤ maxLen ∧ True ∧ (Lit.int .i64 z0f3_f2_f2_n).wf = true ∧ (Lit.int .i64 z0f3_f2_f3_n).wf = true ∧ z0f3_f3_f0_n.size ≤ maxLen ∧ True ∧ (Lit.int .i64 z0f3_f3_f2_n).wf = true ∧ (Lit.int .i64 z0f3_f3_f3_n).wf = true ∧ z0f3_f4_f0_n.size ≤ maxLen ∧ True ∧ (Lit.int .i64 z0f3_f4_f2_n).wf = true ∧ (Lit.int .i64 z0f3_f4_f3_n).wf = true ∧ z0f3_f5_f0_n.size ≤ maxLen ∧ True ∧ (Lit.int .i64 z0f3_f5_f2_n).wf = true ∧ (Lit.int .i64 z0f3_f5_f3_n).wf = true ∧ z0f3_f6_f0_n.size ≤ maxLen ∧ True ∧ (Lit.int .i64 z0f3_f6_f2_n).wf = true ∧ (Lit.int .i64 z0f3_f6_f3_n).wf = true ∧ z0f3_f7_f0_n.size ≤ maxLen ∧ True ∧ (Lit.int .i64 z0f3_f7_f2_n).wf = true ∧ (Lit.int .i64 z0f3_f7_f3_n).wf = true)) (h1 : Aside0 ((Lit.int .i64 z1n).wf = true)) :
    Calls Try.prog 7 #[.agg #[.int .i64 z0f0_n, .int .i64 z0f1_n, .int .i64 z0f2_n, .string z0f3_f0_f0_n, .bool z0f3_f0_f1_n, .int .i64 z0f3_f0_f2_n, .int .i64 z0f3_f0_f3_n, .string z0f3_f1_f0_n, .bool z0f3_f1_f1_n, .int .i64 z0f3_f1_f2_n, .int .i64 z0f3_f1_f3_n, .string z0f3_f2_f0_n, .bool z0f3_f2_f1_n, .int .i64 z0f3_f2_f2_n, .int .i64 z0f3_f2_f3_n, .string z0f3_f3_f0_n, .bool z0f3_f3_f1_n, .int .i64 z0f3_f3_f2_n, .int .i64 z0f3_f3_f3_n, .string z0f3_f4_f0_n, .bool z0f3_f4_f1_n, .int .i64 z0f3_f4_f2_n, .int .i64 z0f3_f4_f3_n, .string z0f3_f5_f0_n, .bool z0f3_f5_f1_n, .int .i64 z0f3_f5_f2_n, .int .i64 z0f3_f5_f3_n, .string z0f3_f6_f0_n, .bool z0f3_f6_f1_n, .int .i64 z0f3_f6_f2_n, .int .i64 z0f3_f6_f3_n, .string z0f3_f7_f0_n, .bool z0f3_f7_f1_n, .int .i64 z0f3_f7_f2_n, .int .i64 z0f3_f7_f3_n], .int .i64 z1n] w fun e w' => e = .returned (.bool true) ∧ Below w.heap.size w w' := by
  have hn0 : ∀ v ∈ (⟨z0f0_n, z0f1_n, z0f2_n, [⟨z0f3_f0_f0_n, z0f3_f0_f1_n, z0f3_f0_f2_n, z0f3_f0_f3_n⟩, ⟨z0f3_f1_f0_n, z0f3_f1_f1_n, z0f3_f1_f2_n, z0f3_f1_f3_n⟩, ⟨z0f3_f2_f0_n, z0f3_f2_f1_n, z0f3_f2_f2_n, z0f3_f2_f3_n⟩, ⟨z0f3_f3_f0_n, z0f3_f3_f1_n, z0f3_f3_f2_n, z0f3_f3_f3_n⟩, ⟨z0f3_f4_f0_n, z0f3_f4_f1_n, z0f3_f4_f2_n, z0f3_f4_f3_n⟩, ⟨z0f3_f5_f0_n, z0f3_f5_f1_n, z0f3_f5_f2_n, z0f3_f5_f3_n⟩, ⟨z0f3_f6_f0_n, z0f3_f6_f1_n, z0f3_f6_f2_n, z0f3_f6_f3_n⟩, ⟨z0f3_f7_f0_n, z0f3_f7_f1_n, z0f3_f7_f2_n, z0f3_f7_f3_n⟩]⟩ : SupS).vols, v.name.size ≤ 9223372036854775807 := by
    obtain ⟨_, _, _, n0, _, _, _, n1, _, _, _, n2, _, _, _, n3, _, _, _, n4, _, _, _, n5, _, _, _, n6, _, _, _, n7, _, _, _⟩ := h0.out
    intro v hv
    simp only [List.mem_cons, List.not_mem_nil, or_false] at hv
    rcases hv with rfl | rfl | rfl | rfl | rfl | rfl | rfl | rfl
    · exact n0
    · exact n1
    · exact n2
    · exact n3
    · exact n4
    · exact n5
    · exact n6
    · exact n7
  exact law_writes (⟨z0f0_n, z0f1_n, z0f2_n, [⟨z0f3_f0_f0_n, z0f3_f0_f1_n, z0f3_f0_f2_n, z0f3_f0_f3_n⟩, ⟨z0f3_f1_f0_n, z0f3_f1_f1_n, z0f3_f1_f2_n, z0f3_f1_f3_n⟩, ⟨z0f3_f2_f0_n, z0f3_f2_f1_n, z0f3_f2_f2_n, z0f3_f2_f3_n⟩, ⟨z0f3_f3_f0_n, z0f3_f3_f1_n, z0f3_f3_f2_n, z0f3_f3_f3_n⟩, ⟨z0f3_f4_f0_n, z0f3_f4_f1_n, z0f3_f4_f2_n, z0f3_f4_f3_n⟩, ⟨z0f3_f5_f0_n, z0f3_f5_f1_n, z0f3_f5_f2_n, z0f3_f5_f3_n⟩, ⟨z0f3_f6_f0_n, z0f3_f6_f1_n, z0f3_f6_f2_n, z0f3_f6_f3_n⟩, ⟨z0f3_f7_f0_n, z0f3_f7_f1_n, z0f3_f7_f2_n, z0f3_f7_f3_n⟩]⟩ : SupS) rfl hn0 z1n w

end Go.Proofs.Ytjpebckmjlmkmaa.P
