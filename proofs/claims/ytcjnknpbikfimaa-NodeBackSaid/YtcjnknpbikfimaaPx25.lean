/- Functions and contracts, written by a program (mkprint.py, a wrapper of ours around the print); texts between GIVEN marks are ours. -/
import Derived.Test.YtcjnknpbikfimaaPx0
import Derived.Test.YtcjnknpbikfimaaPx9
import Derived.Test.YtcjnknpbikfimaaPx24
namespace Go.Proofs.Ytcjnknpbikfimaa.P
open Go.RowKit Go.Proofs.YtcjnknpbikfimaaW.PrintWords Go.Proofs.YtcjnknpbikfimaaW.PrintLast Go.Proofs.YtcjnknpbikfimaaW.PrintMore
attribute [local go_sem] max2_int min2_int max_two min_two max_three min_three max_four min_four   -- for this text's walks alone
set_option linter.unusedVariables false
set_option linter.unusedSimpArgs false

/-! ### GIVEN seal_Open: function 43 -/
theorem below_grown {B g : Nat} {w W W1 : World} (hb : Below B w W) (hg : W.grownBy W1 (some g)) (h : B ≤ g) (hs : B ≤ W.heap.size) : Below B w W1 :=
 hb.trans ⟨hg.os, hg.tape, hg.output, hg.size, fun k hk => hg.block k (by omega) (by simp; omega)⟩
def seal_Open.f (l0 : List Int) : Option (Int × Int × Int × Int × Int × List Int × Int) :=
 if (l0.length : Int) ≠ 256 then some (0, 0, 0, 0, 0, [], 3) else
  (num_Take.f l0 4).bind fun t0 => (sum_Sum.f t0.2.1).bind fun s => (num_Take.f t0.2.1 1).bind fun t1 => (num_Take.f t1.2.1 1).bind fun t2 => (num_Take.f t2.2.1 2).bind fun t3 => (num_Take.f t3.2.1 2).bind fun t4 => (num_Take.f t4.2.1 5).bind fun t5 => (num_Take.f t5.2.1 5).bind fun t6 =>
   if t6.1 = 0 ∧ t0.1 = wrap64 s ∧ sealMay t1.1 t3.1 t4.1 t2.1 t5.1 = true then some (t1.1, t3.1, t4.1, t2.1, t5.1, t6.2.1, 0) else some (0, 0, 0, 0, 0, [], 3)
set_option maxHeartbeats 4000000 in
set_option maxRecDepth 100000 in
theorem seal_Open.callsR (A0 : Option Addr) (c0 : Nat) (l0 : List Int) (r1 r2 r3 r4 r5 : Int) (r6 : List Int) (r7 : Int) (w : World) (hr0 : Kd.C (Kd.int .u8) w A0 l0.length l0) (hc0 : l0.length ≤ c0) (h : seal_Open.f l0 = some (r1, r2, r3, r4, r5, r6, r7)) :
  Calls Try.prog 43 #[.slice A0 l0.length c0] w fun e w' => ∃ v5_ : Value, e = .returned (.tuple #[.agg #[.int .i64 r1, .int .i64 r2, .int .i64 r3, .int .i64 r4, .int .i64 r5], v5_, .int .i64 r7]) ∧ Kd.R (Kd.int .u8) 5 w' w.heap.size (fun _ => True) v5_ r6 ∧ Below w.heap.size w w' := by
 have HM0 := Aside0.mk hr0.2.1
 have HB := Aside0.mk (((Below.refl w.heap.size w).alloc (Nat.le_refl _) (.cells #[.slice A0 l0.length c0] 29)).alloc (by simp) (.cells #[.int .i64 0, .int .i64 0, .int .i64 0, .int .i64 0, .int .i64 0] 62))
 have HG := Aside0.mk (heap_alloc2_old w (.cells #[.slice A0 l0.length c0] 29) (.cells #[.int .i64 0, .int .i64 0, .int .i64 0, .int .i64 0, .int .i64 0] 62))
 have H2 := Aside0.mk (heap_alloc2_new w (.cells #[.slice A0 l0.length c0] 29) (.cells #[.int .i64 0, .int .i64 0, .int .i64 0, .int .i64 0, .int .i64 0] 62))
 have HR := Aside0.mk (Kd.C_alloc (Kd.C_alloc hr0 (.cells #[.slice A0 l0.length c0] 29)) (.cells #[.int .i64 0, .int .i64 0, .int .i64 0, .int .i64 0, .int .i64 0] 62))
 have HC := Aside0.mk hc0
 have hm0 := HM0.out
 clear hr0 hc0
 unfold seal_Open.f at h
 by_cases hl : (l0.length : Int) ≠ 256
 ·rw [if_pos hl] at h
  obtain ⟨rfl, rfl, rfl, rfl, rfl, rfl, rfl⟩ : 0 = r1 ∧ 0 = r2 ∧ 0 = r3 ∧ 0 = r4 ∧ 0 = r5 ∧ [] = r6 ∧ 3 = r7 := by simpa using h
  have hn : ((l0.length : Int) != 256) = true := by simpa using hl
  clear h hl
  go_enter Try.func43, Try.ntmps43
  go_wp2
  exact bodyPost_ret (v := .tuple #[.agg #[.int .i64 0, .int .i64 0, .int .i64 0, .int .i64 0, .int .i64 0], .slice none 0 0, .int .i64 3]) (by simp [results, Try.results43, go_sem]) rfl ⟨_, rfl, Kd.R_nil _ _ _ _ _, HB.out⟩
 rw [if_neg hl] at h
 have hn : ((l0.length : Int) != 256) = false := by simpa using hl
 clear hl
 obtain ⟨⟨x0, q0, e0⟩, ht0, h2⟩ := Option.bind_eq_some_iff.1 h
 clear h
 have h := h2
 clear h2
 have T0 := Aside0.mk ht0
 clear ht0
 obtain ⟨s, hs, h2⟩ := Option.bind_eq_some_iff.1 h
 clear h
 have h := h2
 clear h2
 have HS := Aside0.mk hs
 clear hs
 obtain ⟨⟨x1, q1, e1⟩, ht1, h2⟩ := Option.bind_eq_some_iff.1 h
 clear h
 have h := h2
 clear h2
 have T1 := Aside0.mk ht1
 clear ht1
 obtain ⟨⟨x2, q2, e2⟩, ht2, h2⟩ := Option.bind_eq_some_iff.1 h
 clear h
 have h := h2
 clear h2
 have T2 := Aside0.mk ht2
 clear ht2
 obtain ⟨⟨x3, q3, e3⟩, ht3, h2⟩ := Option.bind_eq_some_iff.1 h
 clear h
 have h := h2
 clear h2
 have T3 := Aside0.mk ht3
 clear ht3
 obtain ⟨⟨x4, q4, e4⟩, ht4, h2⟩ := Option.bind_eq_some_iff.1 h
 clear h
 have h := h2
 clear h2
 have T4 := Aside0.mk ht4
 clear ht4
 obtain ⟨⟨x5, q5, e5⟩, ht5, h2⟩ := Option.bind_eq_some_iff.1 h
 clear h
 have h := h2
 clear h2
 have T5 := Aside0.mk ht5
 clear ht5
 obtain ⟨⟨x6, q6, e6⟩, ht6, h2⟩ := Option.bind_eq_some_iff.1 h
 clear h
 have h := h2
 clear h2
 have T6 := Aside0.mk ht6
 clear ht6
 dsimp only at T0 T1 T2 T3 T4 T5 T6 HS h
 go_enter Try.func43, Try.ntmps43
 go_wp2_with fail
 refine (seal_next.calls w.heap.size _ _ l0 4 x0 q0 e0 _ HG.out HR.out HC.out T0.out).mono ?_
 rintro e w1 ⟨A1, c1, rfl, hg, ho, hgr⟩
 have HG' := Aside0.mk hg
 have HR' := Aside0.mk (Kd.R_reads' ho).2.2
 have HC' := Aside0.mk (Kd.R_reads' ho).2.1
 have HO' := Aside0.mk ho
 have H2' := Aside0.mk (blk_grown H2.out hgr (by simp))
 have HB' := Aside0.mk (below_grown HB.out hgr (Nat.le_refl _) (by have := blk_lt HG.out; omega))
 have HS' := Aside0.mk (hgr.size)
 clear hg ho hgr HG HR HC H2 HB
 have HG := HG'
 have HR := HR'
 have HC := HC'
 have HO := HO'
 have H2 := H2'
 have HB := HB'
 have HSZ := HS'
 clear HG' HR' HC' HO' H2' HB' HS'
 have hcell := blk_cell HG.out 0
 rw [show (#[Value.slice A1 q0.length c1] : Array Value)[0]? = some (.slice A1 q0.length c1) from rfl] at hcell
 go_wp2_with fail
 refine (sum_Sum.calls _ _ q0 s _ HR.out HC.out HS.out).mono ?_
 rintro e w2 ⟨rfl, hb⟩
 have HG' := Aside0.mk (blk_below HG.out hb)
 have H2' := Aside0.mk (blk_below H2.out hb)
 have HR' := Aside0.mk (Kd.C_below HR.out hb)
 have HB' := Aside0.mk (below_step HB.out hb)
 clear hb HG HR H2 HB HO HSZ hcell
 have HG := HG'
 have H2 := H2'
 have HR := HR'
 have HB := HB'
 clear HG' HR' H2' HB'
 have hcell := blk_cell HG.out 0
 rw [show (#[Value.slice A1 q0.length c1] : Array Value)[0]? = some (.slice A1 q0.length c1) from rfl] at hcell
 go_wp2_with fail
 refine (seal_next.calls w.heap.size _ _ q0 1 x1 q1 e1 _ HG.out HR.out HC.out T1.out).mono ?_
 rintro e w3 ⟨A3, c3, rfl, hg, ho, hgr⟩
 have HG' := Aside0.mk hg
 have HR' := Aside0.mk (Kd.R_reads' ho).2.2
 have HC' := Aside0.mk (Kd.R_reads' ho).2.1
 have HO' := Aside0.mk ho
 have H2' := Aside0.mk (blk_grown H2.out hgr (by simp))
 have HB' := Aside0.mk (below_grown HB.out hgr (Nat.le_refl _) (by have := blk_lt HG.out; omega))
 have HS' := Aside0.mk (hgr.size)
 clear hg ho hgr HG HR HC H2 HB
 have HG := HG'
 have HR := HR'
 have HC := HC'
 have HO := HO'
 have H2 := H2'
 have HB := HB'
 have HSZ := HS'
 clear HG' HR' HC' HO' H2' HB' HS'
 have hcell := blk_cell HG.out 0
 rw [show (#[Value.slice A3 q1.length c3] : Array Value)[0]? = some (.slice A3 q1.length c3) from rfl] at hcell
 go_wp2_with fail
 have H8 := Aside0.mk (heap_alloc_new w3 (.cells #[.int .i64 x1, .int .i64 0, .int .i64 0, .int .i64 0, .int .i64 0] 62))
 have N8 := Aside0.mk (blk_lt H2.out)
 have HG' := Aside0.mk ((heap_alloc_old w3 (.cells #[.int .i64 x1, .int .i64 0, .int .i64 0, .int .i64 0, .int .i64 0] 62) (blk_lt HG.out)).trans HG.out)
 have H2' := Aside0.mk ((heap_alloc_old w3 (.cells #[.int .i64 x1, .int .i64 0, .int .i64 0, .int .i64 0, .int .i64 0] 62) (blk_lt H2.out)).trans H2.out)
 have HR' := Aside0.mk (Kd.C_alloc HR.out (.cells #[.int .i64 x1, .int .i64 0, .int .i64 0, .int .i64 0, .int .i64 0] 62))
 have HB' := Aside0.mk (HB.out.alloc HB.out.size (.cells #[.int .i64 x1, .int .i64 0, .int .i64 0, .int .i64 0, .int .i64 0] 62))
 have L8 := Aside0.mk (blk_lt H8.out)
 clear HG H2 HR HB HO HSZ hcell
 have HG := HG'
 have H2 := H2'
 have HR := HR'
 have HB := HB'
 clear HG' H2' HR' HB'
 generalize w3.alloc (.cells #[.int .i64 x1, .int .i64 0, .int .i64 0, .int .i64 0, .int .i64 0] 62) = V3 at *
 generalize w3.heap.size = g8 at *
 refine (seal_next.calls w.heap.size _ _ q1 1 x2 q2 e2 _ HG.out HR.out HC.out T2.out).mono ?_
 rintro e w4 ⟨A4, c4, rfl, hg, ho, hgr⟩
 have HG' := Aside0.mk hg
 have HC' := Aside0.mk (Kd.R_reads' ho).2.1
 have HO := Aside0.mk ho
 have H2' := Aside0.mk (blk_grown H2.out hgr (by simp))
 have HB' := Aside0.mk (below_grown HB.out hgr (Nat.le_refl _) (by have := blk_lt HG.out; omega))
 have H8' := Aside0.mk (blk_grown H8.out hgr (by have := N8.out; simp; omega))
 clear hg ho hgr HG HR HC H2 HB H8
 have HG := HG'
 have HC := HC'
 have H2 := H2'
 have HB := HB'
 have H8 := H8'
 clear HG' HC' H2' HB' H8'
 have hc8 := blk_cell H8.out 3
 rw [show (#[.int .i64 x1, .int .i64 0, .int .i64 0, .int .i64 0, .int .i64 0] : Array Value)[3]? = some (.int .i64 0) from rfl] at hc8
 have hf8 := blk_frozen H8.out 3
 go_wp2_with fail
 clear hc8 hf8
 have HG' := Aside0.mk ((heap_setCell_other w4 ⟨g8, 3, none⟩ w.heap.size (.int .i64 x2) (by have := N8.out; show w.heap.size ≠ g8; omega)).trans HG.out)
 have H2' := Aside0.mk ((heap_setCell_other w4 ⟨g8, 3, none⟩ (w.heap.size + 1) (.int .i64 x2) (by have := N8.out; show w.heap.size + 1 ≠ g8; omega)).trans H2.out)
 have H8' := Aside0.mk (show (w4.setCell ⟨g8, 3, none⟩ (.int .i64 x2)).heap[g8]? = some (.cells #[.int .i64 x1, .int .i64 0, .int .i64 0, .int .i64 x2, .int .i64 0] 62 (0, 0)) from heap_setCell_same w4 g8 3 _ _ (.int .i64 x2) H8.out)
 have HO' := Aside0.mk (Kd.R_far (p := ⟨g8, 3, none⟩) HO.out (fun k hk => by have := L8.out; show k ≠ g8; omega) (.int .i64 x2))
 have HR := Aside0.mk (Kd.R_reads' HO'.out).2.2
 have HB' := Aside0.mk (HB.out.setCell (p := ⟨g8, 3, none⟩) (by have := N8.out; show w.heap.size ≤ g8; omega) (.int .i64 x2))
 have L8' := Aside0.mk (blk_lt H8'.out)
 clear HG H2 H8 HO HB L8 HO'
 have HG := HG'
 have H2 := H2'
 have H8 := H8'
 have HB := HB'
 have L8 := L8'
 clear HG' H2' H8' HB' L8'
 generalize w4.setCell ⟨g8, 3, none⟩ (.int .i64 x2) = V4 at *
 refine (seal_next.calls w.heap.size _ _ q2 2 x3 q3 e3 _ HG.out HR.out HC.out T3.out).mono ?_
 rintro e w5 ⟨A5, c5, rfl, hg, ho, hgr⟩
 have HG' := Aside0.mk hg
 have HC' := Aside0.mk (Kd.R_reads' ho).2.1
 have HO := Aside0.mk ho
 have H2' := Aside0.mk (blk_grown H2.out hgr (by simp))
 have HB' := Aside0.mk (below_grown HB.out hgr (Nat.le_refl _) (by have := blk_lt HG.out; omega))
 have H8' := Aside0.mk (blk_grown H8.out hgr (by have := N8.out; simp; omega))
 clear hg ho hgr HG HR HC H2 HB H8
 have HG := HG'
 have HC := HC'
 have H2 := H2'
 have HB := HB'
 have H8 := H8'
 clear HG' HC' H2' HB' H8'
 have hc8 := blk_cell H8.out 1
 rw [show (#[.int .i64 x1, .int .i64 0, .int .i64 0, .int .i64 x2, .int .i64 0] : Array Value)[1]? = some (.int .i64 0) from rfl] at hc8
 have hf8 := blk_frozen H8.out 1
 go_wp2_with fail
 clear hc8 hf8
 have HG' := Aside0.mk ((heap_setCell_other w5 ⟨g8, 1, none⟩ w.heap.size (.int .i64 x3) (by have := N8.out; show w.heap.size ≠ g8; omega)).trans HG.out)
 have H2' := Aside0.mk ((heap_setCell_other w5 ⟨g8, 1, none⟩ (w.heap.size + 1) (.int .i64 x3) (by have := N8.out; show w.heap.size + 1 ≠ g8; omega)).trans H2.out)
 have H8' := Aside0.mk (show (w5.setCell ⟨g8, 1, none⟩ (.int .i64 x3)).heap[g8]? = some (.cells #[.int .i64 x1, .int .i64 x3, .int .i64 0, .int .i64 x2, .int .i64 0] 62 (0, 0)) from heap_setCell_same w5 g8 1 _ _ (.int .i64 x3) H8.out)
 have HO' := Aside0.mk (Kd.R_far (p := ⟨g8, 1, none⟩) HO.out (fun k hk => by have := L8.out; show k ≠ g8; omega) (.int .i64 x3))
 have HR := Aside0.mk (Kd.R_reads' HO'.out).2.2
 have HB' := Aside0.mk (HB.out.setCell (p := ⟨g8, 1, none⟩) (by have := N8.out; show w.heap.size ≤ g8; omega) (.int .i64 x3))
 have L8' := Aside0.mk (blk_lt H8'.out)
 clear HG H2 H8 HO HB L8 HO'
 have HG := HG'
 have H2 := H2'
 have H8 := H8'
 have HB := HB'
 have L8 := L8'
 clear HG' H2' H8' HB' L8'
 generalize w5.setCell ⟨g8, 1, none⟩ (.int .i64 x3) = V5 at *
 refine (seal_next.calls w.heap.size _ _ q3 2 x4 q4 e4 _ HG.out HR.out HC.out T4.out).mono ?_
 rintro e w6 ⟨A6, c6, rfl, hg, ho, hgr⟩
 have HG' := Aside0.mk hg
 have HC' := Aside0.mk (Kd.R_reads' ho).2.1
 have HO := Aside0.mk ho
 have H2' := Aside0.mk (blk_grown H2.out hgr (by simp))
 have HB' := Aside0.mk (below_grown HB.out hgr (Nat.le_refl _) (by have := blk_lt HG.out; omega))
 have H8' := Aside0.mk (blk_grown H8.out hgr (by have := N8.out; simp; omega))
 clear hg ho hgr HG HR HC H2 HB H8
 have HG := HG'
 have HC := HC'
 have H2 := H2'
 have HB := HB'
 have H8 := H8'
 clear HG' HC' H2' HB' H8'
 have hc8 := blk_cell H8.out 2
 rw [show (#[.int .i64 x1, .int .i64 x3, .int .i64 0, .int .i64 x2, .int .i64 0] : Array Value)[2]? = some (.int .i64 0) from rfl] at hc8
 have hf8 := blk_frozen H8.out 2
 go_wp2_with fail
 clear hc8 hf8
 have HG' := Aside0.mk ((heap_setCell_other w6 ⟨g8, 2, none⟩ w.heap.size (.int .i64 x4) (by have := N8.out; show w.heap.size ≠ g8; omega)).trans HG.out)
 have H2' := Aside0.mk ((heap_setCell_other w6 ⟨g8, 2, none⟩ (w.heap.size + 1) (.int .i64 x4) (by have := N8.out; show w.heap.size + 1 ≠ g8; omega)).trans H2.out)
 have H8' := Aside0.mk (show (w6.setCell ⟨g8, 2, none⟩ (.int .i64 x4)).heap[g8]? = some (.cells #[.int .i64 x1, .int .i64 x3, .int .i64 x4, .int .i64 x2, .int .i64 0] 62 (0, 0)) from heap_setCell_same w6 g8 2 _ _ (.int .i64 x4) H8.out)
 have HO' := Aside0.mk (Kd.R_far (p := ⟨g8, 2, none⟩) HO.out (fun k hk => by have := L8.out; show k ≠ g8; omega) (.int .i64 x4))
 have HR := Aside0.mk (Kd.R_reads' HO'.out).2.2
 have HB' := Aside0.mk (HB.out.setCell (p := ⟨g8, 2, none⟩) (by have := N8.out; show w.heap.size ≤ g8; omega) (.int .i64 x4))
 have L8' := Aside0.mk (blk_lt H8'.out)
 clear HG H2 H8 HO HB L8 HO'
 have HG := HG'
 have H2 := H2'
 have H8 := H8'
 have HB := HB'
 have L8 := L8'
 clear HG' H2' H8' HB' L8'
 generalize w6.setCell ⟨g8, 2, none⟩ (.int .i64 x4) = V6 at *
 refine (seal_next.calls w.heap.size _ _ q4 5 x5 q5 e5 _ HG.out HR.out HC.out T5.out).mono ?_
 rintro e w7 ⟨A7, c7, rfl, hg, ho, hgr⟩
 have HG' := Aside0.mk hg
 have HC' := Aside0.mk (Kd.R_reads' ho).2.1
 have HO := Aside0.mk ho
 have H2' := Aside0.mk (blk_grown H2.out hgr (by simp))
 have HB' := Aside0.mk (below_grown HB.out hgr (Nat.le_refl _) (by have := blk_lt HG.out; omega))
 have H8' := Aside0.mk (blk_grown H8.out hgr (by have := N8.out; simp; omega))
 clear hg ho hgr HG HR HC H2 HB H8
 have HG := HG'
 have HC := HC'
 have H2 := H2'
 have HB := HB'
 have H8 := H8'
 clear HG' HC' H2' HB' H8'
 have hc8 := blk_cell H8.out 4
 rw [show (#[.int .i64 x1, .int .i64 x3, .int .i64 x4, .int .i64 x2, .int .i64 0] : Array Value)[4]? = some (.int .i64 0) from rfl] at hc8
 have hf8 := blk_frozen H8.out 4
 go_wp2_with fail
 clear hc8 hf8
 have HG' := Aside0.mk ((heap_setCell_other w7 ⟨g8, 4, none⟩ w.heap.size (.int .i64 x5) (by have := N8.out; show w.heap.size ≠ g8; omega)).trans HG.out)
 have H2' := Aside0.mk ((heap_setCell_other w7 ⟨g8, 4, none⟩ (w.heap.size + 1) (.int .i64 x5) (by have := N8.out; show w.heap.size + 1 ≠ g8; omega)).trans H2.out)
 have H8' := Aside0.mk (show (w7.setCell ⟨g8, 4, none⟩ (.int .i64 x5)).heap[g8]? = some (.cells #[.int .i64 x1, .int .i64 x3, .int .i64 x4, .int .i64 x2, .int .i64 x5] 62 (0, 0)) from heap_setCell_same w7 g8 4 _ _ (.int .i64 x5) H8.out)
 have HO' := Aside0.mk (Kd.R_far (p := ⟨g8, 4, none⟩) HO.out (fun k hk => by have := L8.out; show k ≠ g8; omega) (.int .i64 x5))
 have HR := Aside0.mk (Kd.R_reads' HO'.out).2.2
 have HB' := Aside0.mk (HB.out.setCell (p := ⟨g8, 4, none⟩) (by have := N8.out; show w.heap.size ≤ g8; omega) (.int .i64 x5))
 have L8' := Aside0.mk (blk_lt H8'.out)
 clear HG H2 H8 HO HB L8 HO'
 have HG := HG'
 have H2 := H2'
 have H8 := H8'
 have HB := HB'
 have L8 := L8'
 clear HG' H2' H8' HB' L8'
 generalize w7.setCell ⟨g8, 4, none⟩ (.int .i64 x5) = V7 at *
 refine (seal_next.calls w.heap.size _ _ q5 5 x6 q6 e6 _ HG.out HR.out HC.out T6.out).mono ?_
 rintro e w8 ⟨A8, c8, rfl, hg, ho, hgr⟩
 have HG' := Aside0.mk hg
 have HC' := Aside0.mk (Kd.R_reads' ho).2.1
 have HO := Aside0.mk ho
 have H2' := Aside0.mk (blk_grown H2.out hgr (by simp))
 have HB' := Aside0.mk (below_grown HB.out hgr (Nat.le_refl _) (by have := blk_lt HG.out; omega))
 have H8' := Aside0.mk (blk_grown H8.out hgr (by have := N8.out; simp; omega))
 clear hg ho hgr HG HR HC H2 HB H8
 have HG := HG'
 have HC := HC'
 have H2 := H2'
 have HB := HB'
 have H8 := H8'
 clear HG' HC' H2' HB' H8'
 have H8c : ∀ i, i < 5 → w8.cell? ⟨g8, i, none⟩ = (#[.int .i64 x1, .int .i64 x3, .int .i64 x4, .int .i64 x2, .int .i64 x5] : Array Value)[i]? := fun i _ => blk_cell H8.out i
 have k0 := H8c 0 (by omega)
 have k1 := H8c 1 (by omega)
 have k2 := H8c 2 (by omega)
 have k3 := H8c 3 (by omega)
 have k4 := H8c 4 (by omega)
 rw [show (#[.int .i64 x1, .int .i64 x3, .int .i64 x4, .int .i64 x2, .int .i64 x5] : Array Value)[0]? = some (.int .i64 x1) from rfl] at k0
 rw [show (#[.int .i64 x1, .int .i64 x3, .int .i64 x4, .int .i64 x2, .int .i64 x5] : Array Value)[1]? = some (.int .i64 x3) from rfl] at k1
 rw [show (#[.int .i64 x1, .int .i64 x3, .int .i64 x4, .int .i64 x2, .int .i64 x5] : Array Value)[2]? = some (.int .i64 x4) from rfl] at k2
 rw [show (#[.int .i64 x1, .int .i64 x3, .int .i64 x4, .int .i64 x2, .int .i64 x5] : Array Value)[3]? = some (.int .i64 x2) from rfl] at k3
 rw [show (#[.int .i64 x1, .int .i64 x3, .int .i64 x4, .int .i64 x2, .int .i64 x5] : Array Value)[4]? = some (.int .i64 x5) from rfl] at k4
 have HON := Aside0.mk (fun (v : Value) (hv : v ∈ (#[.int .i64 0, .int .i64 0, .int .i64 0, .int .i64 0, .int .i64 0] : Array Value).toList) => show v.oneCell' = true from by simp at hv; rw [hv]; rfl)
 clear H8c
 by_cases h6 : x6 = 0
 case neg =>
  rw [if_neg (fun q => h6 q.1)] at h
  obtain ⟨rfl, rfl, rfl, rfl, rfl, rfl, rfl⟩ : 0 = r1 ∧ 0 = r2 ∧ 0 = r3 ∧ 0 = r4 ∧ 0 = r5 ∧ [] = r6 ∧ 3 = r7 := by simpa using h
  have hb6 : (x6 != 0) = true := by simpa using h6
  clear h h6
  go_wp2_with (refine Own.wpList_store_row rfl 62 _ _ rfl (w.heap.size + 1) rfl #[.int .i64 0, .int .i64 0, .int .i64 0, .int .i64 0, .int .i64 0] rfl 62 _ H2.out q8_ rfl HON.out ?_)
  exact bodyPost_ret (results_ctt rfl _ _ (w.heap.size + 1) 62 #[.int .i64 0, .int .i64 0, .int .i64 0, .int .i64 0, .int .i64 0] (0, 0) _ rfl (setRow_heap _ _ _ _ _ _ H2.out) Try.underlying62 rfl q8_) rfl ⟨_, rfl, Kd.R_nil _ _ _ _ _, below_setRow HB.out (by omega) _⟩
 subst h6
 have hb6 : ((0 : Int) != 0) = false := rfl
 by_cases hq : x0 = wrap64 s
 case neg =>
  rw [if_neg (fun q => hq q.2.1)] at h
  obtain ⟨rfl, rfl, rfl, rfl, rfl, rfl, rfl⟩ : 0 = r1 ∧ 0 = r2 ∧ 0 = r3 ∧ 0 = r4 ∧ 0 = r5 ∧ [] = r6 ∧ 3 = r7 := by simpa using h
  have hbq : (x0 == wrap64 s) = false := by simpa using hq
  clear h hq
  go_wp2_with (refine Own.wpList_store_row rfl 62 _ _ rfl (w.heap.size + 1) rfl #[.int .i64 0, .int .i64 0, .int .i64 0, .int .i64 0, .int .i64 0] rfl 62 _ H2.out q8_ rfl HON.out ?_)
  exact bodyPost_ret (results_ctt rfl _ _ (w.heap.size + 1) 62 #[.int .i64 0, .int .i64 0, .int .i64 0, .int .i64 0, .int .i64 0] (0, 0) _ rfl (setRow_heap _ _ _ _ _ _ H2.out) Try.underlying62 rfl q8_) rfl ⟨_, rfl, Kd.R_nil _ _ _ _ _, below_setRow HB.out (by omega) _⟩
 have hbq : (x0 == wrap64 s) = true := by simpa using hq
 by_cases hm : sealMay x1 x3 x4 x2 x5 = true
 case neg =>
  rw [if_neg (fun q => hm q.2.2)] at h
  obtain ⟨rfl, rfl, rfl, rfl, rfl, rfl, rfl⟩ : 0 = r1 ∧ 0 = r2 ∧ 0 = r3 ∧ 0 = r4 ∧ 0 = r5 ∧ [] = r6 ∧ 3 = r7 := by simpa using h
  have HM := Aside0.mk (show seal_may.f x1 x3 x4 x2 x5 = some false from congrArg some (by simpa using hm))
  clear h hq hm
  go_wp2_with fail
  refine (seal_may.calls x1 x3 x4 x2 x5 false _ HM.out).mono ?_
  rintro e w9 ⟨rfl, hb⟩
  have H2' := Aside0.mk (blk_below H2.out hb)
  have HB' := Aside0.mk (below_step HB.out hb)
  clear hb H2 HB hcell k0 k1 k2 k3 k4
  go_wp2_with (refine Own.wpList_store_row rfl 62 _ _ rfl (w.heap.size + 1) rfl #[.int .i64 0, .int .i64 0, .int .i64 0, .int .i64 0, .int .i64 0] rfl 62 _ H2'.out q8_ rfl HON.out ?_)
  exact bodyPost_ret (results_ctt rfl _ _ (w.heap.size + 1) 62 #[.int .i64 0, .int .i64 0, .int .i64 0, .int .i64 0, .int .i64 0] (0, 0) _ rfl (setRow_heap _ _ _ _ _ _ H2'.out) Try.underlying62 rfl q8_) rfl ⟨_, rfl, Kd.R_nil _ _ _ _ _, below_setRow HB'.out (by omega) _⟩
 rw [if_pos ⟨rfl, hq, hm⟩] at h
 obtain ⟨rfl, rfl, rfl, rfl, rfl, rfl, rfl⟩ : x1 = r1 ∧ x3 = r2 ∧ x4 = r3 ∧ x2 = r4 ∧ x5 = r5 ∧ q6 = r6 ∧ 0 = r7 := by simpa using h
 have HM := Aside0.mk (show seal_may.f x1 x3 x4 x2 x5 = some true from congrArg some hm)
 clear h hq hm
 go_wp2_with fail
 refine (seal_may.calls x1 x3 x4 x2 x5 true _ HM.out).mono ?_
 rintro e w9 ⟨rfl, hb⟩
 have HG' := Aside0.mk (blk_below HG.out hb)
 have H8' := Aside0.mk (blk_below H8.out hb)
 have H2' := Aside0.mk (blk_below H2.out hb)
 have HB' := Aside0.mk (below_step HB.out hb)
 have HO' := Aside0.mk (Kd.R_below HO.out hb)
 clear hb HG H8 H2 HB HO hcell k0 k1 k2 k3 k4
 have k0 := blk_cell H8'.out 0
 have k1 := blk_cell H8'.out 1
 have k2 := blk_cell H8'.out 2
 have k3 := blk_cell H8'.out 3
 have k4 := blk_cell H8'.out 4
 have kb := blk_cell HG'.out 0
 rw [show (#[.int .i64 x1, .int .i64 x3, .int .i64 x4, .int .i64 x2, .int .i64 x5] : Array Value)[0]? = some (.int .i64 x1) from rfl] at k0
 rw [show (#[.int .i64 x1, .int .i64 x3, .int .i64 x4, .int .i64 x2, .int .i64 x5] : Array Value)[1]? = some (.int .i64 x3) from rfl] at k1
 rw [show (#[.int .i64 x1, .int .i64 x3, .int .i64 x4, .int .i64 x2, .int .i64 x5] : Array Value)[2]? = some (.int .i64 x4) from rfl] at k2
 rw [show (#[.int .i64 x1, .int .i64 x3, .int .i64 x4, .int .i64 x2, .int .i64 x5] : Array Value)[3]? = some (.int .i64 x2) from rfl] at k3
 rw [show (#[.int .i64 x1, .int .i64 x3, .int .i64 x4, .int .i64 x2, .int .i64 x5] : Array Value)[4]? = some (.int .i64 x5) from rfl] at k4
 rw [show (#[Value.slice A8 q6.length c8] : Array Value)[0]? = some (.slice A8 q6.length c8) from rfl] at kb
 go_wp2
 have N1 := N8.out
 have n1 : g8 ≠ w.heap.size + 1 := by omega
 have n2 : w.heap.size + 1 ≠ g8 := by omega
 have m0 := blk_cell H2'.out 0
 have m1 := blk_cell H2'.out 1
 have m2 := blk_cell H2'.out 2
 have m3 := blk_cell H2'.out 3
 have m4 := blk_cell H2'.out 4
 rw [show (#[.int .i64 0, .int .i64 0, .int .i64 0, .int .i64 0, .int .i64 0] : Array Value)[0]? = some (.int .i64 0) from rfl] at m0
 rw [show (#[.int .i64 0, .int .i64 0, .int .i64 0, .int .i64 0, .int .i64 0] : Array Value)[1]? = some (.int .i64 0) from rfl] at m1
 rw [show (#[.int .i64 0, .int .i64 0, .int .i64 0, .int .i64 0, .int .i64 0] : Array Value)[2]? = some (.int .i64 0) from rfl] at m2
 rw [show (#[.int .i64 0, .int .i64 0, .int .i64 0, .int .i64 0, .int .i64 0] : Array Value)[3]? = some (.int .i64 0) from rfl] at m3
 rw [show (#[.int .i64 0, .int .i64 0, .int .i64 0, .int .i64 0, .int .i64 0] : Array Value)[4]? = some (.int .i64 0) from rfl] at m4
 have f0 := blk_frozen H2'.out 0
 have f1 := blk_frozen H2'.out 1
 have f2 := blk_frozen H2'.out 2
 have f3 := blk_frozen H2'.out 3
 have f4 := blk_frozen H2'.out 4
 go_region_held3 (fun w' => w'.cell? ⟨g8, 0, none⟩ = some (.int .i64 x1) ∧ w'.cell? ⟨g8, 1, none⟩ = some (.int .i64 x3) ∧ w'.cell? ⟨g8, 2, none⟩ = some (.int .i64 x4) ∧ w'.cell? ⟨g8, 3, none⟩ = some (.int .i64 x2) ∧ w'.cell? ⟨g8, 4, none⟩ = some (.int .i64 x5) ∧ w'.cell? ⟨w.heap.size, 0, none⟩ = some (.slice A8 q6.length c8)) (go_keep)
  (first | fail)
 go_wp2
 have HF := HO'.out
 have L1 := L8.out
 have hfar : ∀ k, V7.heap.size ≤ k → k ≠ w.heap.size + 1 := fun k hk => by omega
 exact bodyPost_ret (results_ctt rfl _ _ (w.heap.size + 1) 62 #[.int .i64 x1, .int .i64 x3, .int .i64 x4, .int .i64 x2, .int .i64 x5] (0, 0) _ rfl (blk_drew (heap_setCell_same _ _ 4 _ _ _ (heap_setCell_same _ _ 3 _ _ _ (heap_setCell_same _ _ 2 _ _ _ (heap_setCell_same _ _ 1 _ _ _ (heap_setCell_same _ _ 0 _ _ _ H2'.out)))))) Try.underlying62 rfl q8_) rfl
  ⟨_, rfl, Kd.R_lower (Kd.R_mono (Kd.R_drew (Kd.R_far (p := ⟨w.heap.size + 1, 4, none⟩) (Kd.R_far (p := ⟨w.heap.size + 1, 3, none⟩) (Kd.R_far (p := ⟨w.heap.size + 1, 2, none⟩) (Kd.R_far (p := ⟨w.heap.size + 1, 1, none⟩) (Kd.R_far (p := ⟨w.heap.size + 1, 0, none⟩) HF hfar _) hfar _) hfar _) hfar _) hfar _)) (fun _ _ => trivial)) (by omega),
   below_drew (((((HB'.out.setCell (p := ⟨w.heap.size + 1, 0, none⟩) (by show w.heap.size ≤ w.heap.size + 1; omega) _).setCell (p := ⟨w.heap.size + 1, 1, none⟩) (by show w.heap.size ≤ w.heap.size + 1; omega) _).setCell (p := ⟨w.heap.size + 1, 2, none⟩) (by show w.heap.size ≤ w.heap.size + 1; omega) _).setCell (p := ⟨w.heap.size + 1, 3, none⟩) (by show w.heap.size ≤ w.heap.size + 1; omega) _).setCell (p := ⟨w.heap.size + 1, 4, none⟩) (by show w.heap.size ≤ w.heap.size + 1; omega) _)⟩
theorem seal_Open.calls (A0 : Option Addr) (c0 : Nat) (l0 : List Int) (r1 r2 r3 r4 r5 : Int) (r6 : List Int) (r7 : Int) (w : World) (hr0 : Kd.C (Kd.int .u8) w A0 l0.length l0) (hc0 : l0.length ≤ c0) (h : seal_Open.f l0 = some (r1, r2, r3, r4, r5, r6, r7)) :
  Calls Try.prog 43 #[.slice A0 l0.length c0] w fun e w' => ∃ v5_ : Value, e = .returned (.tuple #[.agg #[.int .i64 r1, .int .i64 r2, .int .i64 r3, .int .i64 r4, .int .i64 r5], v5_, .int .i64 r7]) ∧ Kd.V (Kd.int .u8) 5 w' w.heap.size (fun k_ => (w.heap.size ≤ k_)) v5_ r6 ∧ Below w.heap.size w w' := by
 refine (seal_Open.callsR A0 c0 l0 r1 r2 r3 r4 r5 r6 r7 w hr0 hc0 h).mono ?_
 rintro e w' ⟨v_, rfl, ho, hb⟩
 exact ⟨v_, rfl, Kd.V_mono (Kd.R_V (Kd.R_bound ho)) (fun k_ hk => hk.2.1), hb⟩
/-! ### end of GIVEN -/
end Go.Proofs.Ytcjnknpbikfimaa.P
