/- Functions and contracts, written by a program (mkprint.py, a wrapper of ours around the print); texts between GIVEN marks are ours. -/
import Derived.Test.YtjpebckmjlmkmaaPx0
import Derived.Test.YtjpebckmjlmkmaaPx1
namespace Go.Proofs.Ytjpebckmjlmkmaa.P
open Go.RowKit Go.Proofs.YtjpebckmjlmkmaaW.PrintWords Go.Proofs.YtjpebckmjlmkmaaW.PrintLast Go.Proofs.YtjpebckmjlmkmaaW.PrintMore
attribute [local go_sem] max2_int min2_int max_two min_two max_three min_three max_four min_four   -- for this text's walks alone
set_option linter.unusedVariables false
set_option linter.unusedSimpArgs false

/-! ### GIVEN seal_Open: function 33 -/
theorem below_grown {B g : Nat} {w W W1 : World} (hb : Below B w W) (hg : W.grownBy W1 (some g)) (h : B ≤ g) (hs : B ≤ W.heap.size) : Below B w W1 :=
 hb.trans ⟨hg.os, hg.tape, hg.output, hg.size, fun k hk => hg.block k (by omega) (by simp; omega)⟩
def seal_Open.f (l0 : List Int) : Option (Int × Int × Int × Int × Int × List Int × Int) :=
 if (l0.length : Int) ≠ 256 then some (0, 0, 0, 0, 0, [], 3) else
  (num_Take.f l0 4).bind fun t0 => (sum_Sum.f t0.2.1).bind fun s => (num_Take.f t0.2.1 1).bind fun t1 => (num_Take.f t1.2.1 1).bind fun t2 => (num_Take.f t2.2.1 2).bind fun t3 => (num_Take.f t3.2.1 2).bind fun t4 => (num_Take.f t4.2.1 5).bind fun t5 => (num_Take.f t5.2.1 5).bind fun t6 =>
   if t6.1 = 0 ∧ t0.1 = wrap64 s ∧ sealMay t1.1 t3.1 t4.1 t2.1 t5.1 = true then some (t1.1, t3.1, t4.1, t2.1, t5.1, t6.2.1, 0) else some (0, 0, 0, 0, 0, [], 3)
set_option maxHeartbeats 4000000 in
set_option maxRecDepth 100000 in
theorem seal_Open.callsR (A0 : Option Addr) (c0 : Nat) (l0 : List Int) (r1 r2 r3 r4 r5 : Int) (r6 : List Int) (r7 : Int) (w : World) (hr0 : Kd.C (Kd.int .u8) w A0 l0.length l0) (hc0 : l0.length ≤ c0) (h : seal_Open.f l0 = some (r1, r2, r3, r4, r5, r6, r7)) :
  Calls Try.prog 33 #[.slice A0 l0.length c0] w fun e w' => ∃ v5_ : Value, e = .returned (.tuple #[.agg #[.int .i64 r1, .int .i64 r2, .int .i64 r3, .int .i64 r4, .int .i64 r5], v5_, .int .i64 r7]) ∧ Kd.R (Kd.int .u8) 5 w' w.heap.size (fun _ => True) v5_ r6 ∧ Below w.heap.size w w' := by
 have HM0 := Aside0.mk hr0.2.1
 have HB := Aside0.mk (((Below.refl w.heap.size w).alloc (Nat.le_refl _) (.cells #[.slice A0 l0.length c0] 22)).alloc (by simp) (.cells #[.int .i64 0, .int .i64 0, .int .i64 0, .int .i64 0, .int .i64 0] 49))
 have HG := Aside0.mk (heap_alloc2_old w (.cells #[.slice A0 l0.length c0] 22) (.cells #[.int .i64 0, .int .i64 0, .int .i64 0, .int .i64 0, .int .i64 0] 49))
 have H2 := Aside0.mk (heap_alloc2_new w (.cells #[.slice A0 l0.length c0] 22) (.cells #[.int .i64 0, .int .i64 0, .int .i64 0, .int .i64 0, .int .i64 0] 49))
 have HR := Aside0.mk (Kd.C_alloc (Kd.C_alloc hr0 (.cells #[.slice A0 l0.length c0] 22)) (.cells #[.int .i64 0, .int .i64 0, .int .i64 0, .int .i64 0, .int .i64 0] 49))
 have HC := Aside0.mk hc0
 have hm0 := HM0.out
 clear hr0 hc0
 unfold seal_Open.f at h
 by_cases hl : (l0.length : Int) ≠ 256
 ·rw [if_pos hl] at h
  obtain ⟨rfl, rfl, rfl, rfl, rfl, rfl, rfl⟩ : 0 = r1 ∧ 0 = r2 ∧ 0 = r3 ∧ 0 = r4 ∧ 0 = r5 ∧ [] = r6 ∧ 3 = r7 := by simpa using h
  have hn : ((l0.length : Int) != 256) = true := by simpa using hl
  clear h hl
  go_enter Try.func33, Try.ntmps33
  go_wp2
  exact bodyPost_ret (v := .tuple #[.agg #[.int .i64 0, .int .i64 0, .int .i64 0, .int .i64 0, .int .i64 0], .slice none 0 0, .int .i64 3]) (by simp [results, Try.results33, go_sem]) rfl ⟨_, rfl, Kd.R_nil _ _ _ _ _, HB.out⟩
 rw [if_neg hl] at h
 have hn : ((l0.length : Int) != 256) = false := by simpa using hl
 clear hl
 obtain ⟨⟨x0, q0, e0⟩, ht0, h2⟩ := Option.bind_eq_some_iff.1 h
 clear h
 have h := h2
 clear h2
 have T0 := Aside0.mk ht0
 clear ht0
 obtain ⟨s, hs, h2⟩ := Option.bind_eq_some_iff.1 h
 clear h
 have h := h2
 clear h2
 have HS := Aside0.mk hs
 clear hs
 obtain ⟨⟨x1, q1, e1⟩, ht1, h2⟩ := Option.bind_eq_some_iff.1 h
 clear h
 have h := h2
 clear h2
 have T1 := Aside0.mk ht1
 clear ht1
 obtain ⟨⟨x2, q2, e2⟩, ht2, h2⟩ := Option.bind_eq_some_iff.1 h
 clear h
 have h := h2
 clear h2
 have T2 := Aside0.mk ht2
 clear ht2
 obtain ⟨⟨x3, q3, e3⟩, ht3, h2⟩ := Option.bind_eq_some_iff.1 h
 clear h
 have h := h2
 clear h2
 have T3 := Aside0.mk ht3
 clear ht3
 obtain ⟨⟨x4, q4, e4⟩, ht4, h2⟩ := Option.bind_eq_some_iff.1 h
 clear h
 have h := h2
 clear h2
 have T4 := Aside0.mk ht4
 clear ht4
 obtain ⟨⟨x5, q5, e5⟩, ht5, h2⟩ := Option.bind_eq_some_iff.1 h
 clear h
 have h := h2
 clear h2
 have T5 := Aside0.mk ht5
 clear ht5
 obtain ⟨⟨x6, q6, e6⟩, ht6, h2⟩ := Option.bind_eq_some_iff.1 h
 clear h
 have h := h2
 clear h2
 have T6 := Aside0.mk ht6
 clear ht6
 dsimp only at T0 T1 T2 T3 T4 T5 T6 HS h
 go_enter Try.func33, Try.ntmps33
 go_wp2_with fail
 refine (seal_next.calls w.heap.size _ _ l0 4 x0 q0 e0 _ HG.out HR.out HC.out T0.out).mono ?_
 rintro e w1 ⟨A1, c1, rfl, hg, ho, hgr⟩
 have HG' := Aside0.mk hg
 have HR' := Aside0.mk (Kd.R_reads' ho).2.2
 have HC' := Aside0.mk (Kd.R_reads' ho).2.1
 have HO' := Aside0.mk ho
 have H2' := Aside0.mk (blk_grown H2.out hgr (by simp))
 have HB' := Aside0.mk (below_grown HB.out hgr (Nat.le_refl _) (by have := blk_lt HG.out; omega))
 have HS' := Aside0.mk (hgr.size)
 clear hg ho hgr HG HR HC H2 HB
 have HG := HG'
 have HR := HR'
 have HC := HC'
 have HO := HO'
 have H2 := H2'
 have HB := HB'
 have HSZ := HS'
 clear HG' HR' HC' HO' H2' HB' HS'
 have hcell := blk_cell HG.out 0
 rw [show (#[Value.slice A1 q0.length c1] : Array Value)[0]? = some (.slice A1 q0.length c1) from rfl] at hcell
 go_wp2_with fail
 refine (sum_Sum.calls _ _ q0 s _ HR.out HC.out HS.out).mono ?_
 rintro e w2 ⟨rfl, hb⟩
 have HG' := Aside0.mk (blk_below HG.out hb)
 have H2' := Aside0.mk (blk_below H2.out hb)
 have HR' := Aside0.mk (Kd.C_below HR.out hb)
 have HB' := Aside0.mk (below_step HB.out hb)
 clear hb HG HR H2 HB HO HSZ hcell
 have HG := HG'
 have H2 := H2'
 have HR := HR'
 have HB := HB'
 clear HG' HR' H2' HB'
 have hcell := blk_cell HG.out 0
 rw [show (#[Value.slice A1 q0.length c1] : Array Value)[0]? = some (.slice A1 q0.length c1) from rfl] at hcell
 go_wp2_with fail
 refine (seal_next.calls w.heap.size _ _ q0 1 x1 q1 e1 _ HG.out HR.out HC.out T1.out).mono ?_
 rintro e w3 ⟨A3, c3, rfl, hg, ho, hgr⟩
 have HG' := Aside0.mk hg
 have HR' := Aside0.mk (Kd.R_reads' ho).2.2
 have HC' := Aside0.mk (Kd.R_reads' ho).2.1
 have HO' := Aside0.mk ho
 have H2' := Aside0.mk (blk_grown H2.out hgr (by simp))
 have HB' := Aside0.mk (below_grown HB.out hgr (Nat.le_refl _) (by have := blk_lt HG.out; omega))
 have HS' := Aside0.mk (hgr.size)
 clear hg ho hgr HG HR HC H2 HB
 have HG := HG'
 have HR := HR'
 have HC := HC'
 have HO := HO'
 have H2 := H2'
 have HB := HB'
 have HSZ := HS'
 clear HG' HR' HC' HO' H2' HB' HS'
 have hcell := blk_cell HG.out 0
 rw [show (#[Value.slice A3 q1.length c3] : Array Value)[0]? = some (.slice A3 q1.length c3) from rfl] at hcell
 go_wp2_with fail
 have H8 := Aside0.mk (heap_alloc_new w3 (.cells #[.int .i64 x1, .int .i64 0, .int .i64 0, .int .i64 0, .int .i64 0] 49))
 have N8 := Aside0.mk (blk_lt H2.out)
 have HG' := Aside0.mk ((heap_alloc_old w3 (.cells #[.int .i64 x1, .int .i64 0, .int .i64 0, .int .i64 0, .int .i64 0] 49) (blk_lt HG.out)).trans HG.out)
 have H2' := Aside0.mk ((heap_alloc_old w3 (.cells #[.int .i64 x1, .int .i64 0, .int .i64 0, .int .i64 0, .int .i64 0] 49) (blk_lt H2.out)).trans H2.out)
 have HR' := Aside0.mk (Kd.C_alloc HR.out (.cells #[.int .i64 x1, .int .i64 0, .int .i64 0, .int .i64 0, .int .i64 0] 49))
 have HB' := Aside0.mk (HB.out.alloc HB.out.size (.cells #[.int .i64 x1, .int .i64 0, .int .i64 0, .int .i64 0, .int .i64 0] 49))
 have L8 := Aside0.mk (blk_lt H8.out)
 clear HG H2 HR HB HO HSZ hcell
 have HG := HG'
 have H2 := H2'
 have HR := HR'
 have HB := HB'
 clear HG' H2' HR' HB'
 generalize w3.alloc (.cells #[.int .i64 x1, .int .i64 0, .int .i64 0, .int .i64 0, .int .i64 0] 49) = V3 at *
 generalize w3.heap.size = g8 at *
 refine (seal_next.calls w.heap.size _ _ q1 1 x2 q2 e2 _ HG.out HR.out HC.out T2.out).mono ?_
 rintro e w4 ⟨A4, c4, rfl, hg, ho, hgr⟩
 have HG' := Aside0.mk hg
 have HC' := Aside0.mk (Kd.R_reads' ho).2.1
 have HO := Aside0.mk ho
 have H2' := Aside0.mk (blk_grown H2.out hgr (by simp))
 have HB' := Aside0.mk (below_grown HB.out hgr (Nat.le_refl _) (by have := blk_lt HG.out; omega))
 have H8' := Aside0.mk (blk_grown H8.out hgr (by have := N8.out; simp; omega))
 clear hg ho hgr HG HR HC H2 HB H8
 have HG := HG'
 have HC := HC'
 have H2 := H2'
 have HB := HB'
 have H8 := H8'
 clear HG' HC' H2' HB' H8'
 have hc8 := blk_cell H8.out 3
 rw [show (#[.int .i64 x1, .int .i64 0, .int .i64 0, .int .i64 0, .int .i64 0] : Array Value)[3]? = some (.int .i64 0) from rfl] at hc8
 have hf8 := blk_frozen H8.out 3
 go_wp2_with fail
 clear hc8 hf8
 have HG' := Aside0.mk ((heap_setCell_other w4 ⟨g8, 3, none⟩ w.heap.size (.int .i64 x2) (by have := N8.out; show w.heap.size ≠ g8; omega)).trans HG.out)
 have H2' := Aside0.mk ((heap_setCell_other w4 ⟨g8, 3, none⟩ (w.heap.size + 1) (.int .i64 x2) (by have := N8.out; show w.heap.size + 1 ≠ g8; omega)).trans H2.out)
 have H8' := Aside0.mk (show (w4.setCell ⟨g8, 3, none⟩ (.int .i64 x2)).heap[g8]? = some (.cells #[.int .i64 x1, .int .i64 0, .int .i64 0, .int .i64 x2, .int .i64 0] 49 (0, 0)) from heap_setCell_same w4 g8 3 _ _ (.int .i64 x2) H8.out)
 have HO' := Aside0.mk (Kd.R_far (p := ⟨g8, 3, none⟩) HO.out (fun k hk => by have := L8.out; show k ≠ g8; omega) (.int .i64 x2))
 have HR := Aside0.mk (Kd.R_reads' HO'.out).2.2
 have HB' := Aside0.mk (HB.out.setCell (p := ⟨g8, 3, none⟩) (by have := N8.out; show w.heap.size ≤ g8; omega) (.int .i64 x2))
 have L8' := Aside0.mk (blk_lt H8'.out)
 clear HG H2 H8 HO HB L8 HO'
 have HG := HG'
 have H2 := H2'
 have H8 := H8'
 have HB := HB'
 have L8 := L8'
 clear HG' H2' H8' HB' L8'
 generalize w4.setCell ⟨g8, 3, none⟩ (.int .i64 x2) = V4 at *
 refine (seal_next.calls w.heap.size _ _ q2 2 x3 q3 e3 _ HG.out HR.out HC.out T3.out).mono ?_
 rintro e w5 ⟨A5, c5, rfl, hg, ho, hgr⟩
 have HG' := Aside0.mk hg
 have HC' := Aside0.mk (Kd.R_reads' ho).2.1
 have HO := Aside0.mk ho
 have H2' := Aside0.mk (blk_grown H2.out hgr (by simp))
 have HB' := Aside0.mk (below_grown HB.out hgr (Nat.le_refl _) (by have := blk_lt HG.out; omega))
 have H8' := Aside0.mk (blk_grown H8.out hgr (by have := N8.out; simp; omega))
 clear hg ho hgr HG HR HC H2 HB H8
 have HG := HG'
 have HC := HC'
 have H2 := H2'
 have HB := HB'
 have H8 := H8'
 clear HG' HC' H2' HB' H8'
 have hc8 := blk_cell H8.out 1
 rw [show (#[.int .i64 x1, .int .i64 0, .int .i64 0, .int .i64 x2, .int .i64 0] : Array Value)[1]? = some (.int .i64 0) from rfl] at hc8
 have hf8 := blk_frozen H8.out 1
 go_wp2_with fail
 clear hc8 hf8
 have HG' := Aside0.mk ((heap_setCell_other w5 ⟨g8, 1, none⟩ w.heap.size (.int .i64 x3) (by have := N8.out; show w.heap.size ≠ g8; omega)).trans HG.out)
 have H2' := Aside0.mk ((heap_setCell_other w5 ⟨g8, 1, none⟩ (w.heap.size + 1) (.int .i64 x3) (by have := N8.out; show w.heap.size + 1 ≠ g8; omega)).trans H2.out)
 have H8' := Aside0.mk (show (w5.setCell ⟨g8, 1, none⟩ (.int .i64 x3)).heap[g8]? = some (.cells #[.int .i64 x1, .int .i64 x3, .int .i64 0, .int .i64 x2, .int .i64 0] 49 (0, 0)) from heap_setCell_same w5 g8 1 _ _ (.int .i64 x3) H8.out)
 have HO' := Aside0.mk (Kd.R_far (p := ⟨g8, 1, none⟩) HO.out (fun k hk => by have := L8.out; show k ≠ g8; omega) (.int .i64 x3))
 have HR := Aside0.mk (Kd.R_reads' HO'.out).2.2
 have HB' := Aside0.mk (HB.out.setCell (p := ⟨g8, 1, none⟩) (by have := N8.out; show w.heap.size ≤ g8; omega) (.int .i64 x3))
 have L8' := Aside0.mk (blk_lt H8'.out)
 clear HG H2 H8 HO HB L8 HO'
 have HG := HG'
 have H2 := H2'
 have H8 := H8'
 have HB := HB'
 have L8 := L8'
 clear HG' H2' H8' HB' L8'
 generalize w5.setCell ⟨g8, 1, none⟩ (.int .i64 x3) = V5 at *
 refine (seal_next.calls w.heap.size _ _ q3 2 x4 q4 e4 _ HG.out HR.out HC.out T4.out).mono ?_
 rintro e w6 ⟨A6, c6, rfl, hg, ho, hgr⟩
 have HG' := Aside0.mk hg
 have HC' := Aside0.mk (Kd.R_reads' ho).2.1
 have HO := Aside0.mk ho
 have H2' := Aside0.mk (blk_grown H2.out hgr (by simp))
 have HB' := Aside0.mk (below_grown HB.out hgr (Nat.le_refl _) (by have := blk_lt HG.out; omega))
 have H8' := Aside0.mk (blk_grown H8.out hgr (by have := N8.out; simp; omega))
 clear hg ho hgr HG HR HC H2 HB H8
 have HG := HG'
 have HC := HC'
 have H2 := H2'
 have HB := HB'
 have H8 := H8'
 clear HG' HC' H2' HB' H8'
 have hc8 := blk_cell H8.out 2
 rw [show (#[.int .i64 x1, .int .i64 x3, .int .i64 0, .int .i64 x2, .int .i64 0] : Array Value)[2]? = some (.int .i64 0) from rfl] at hc8
 have hf8 := blk_frozen H8.out 2
 go_wp2_with fail
 clear hc8 hf8
 have HG' := Aside0.mk ((heap_setCell_other w6 ⟨g8, 2, none⟩ w.heap.size (.int .i64 x4) (by have := N8.out; show w.heap.size ≠ g8; omega)).trans HG.out)
 have H2' := Aside0.mk ((heap_setCell_other w6 ⟨g8, 2, none⟩ (w.heap.size + 1) (.int .i64 x4) (by have := N8.out; show w.heap.size + 1 ≠ g8; omega)).trans H2.out)
 have H8' := Aside0.mk (show (w6.setCell ⟨g8, 2, none⟩ (.int .i64 x4)).heap[g8]? = some (.cells #[.int .i64 x1, .int .i64 x3, .int .i64 x4, .int .i64 x2, .int .i64 0] 49 (0, 0)) from heap_setCell_same w6 g8 2 _ _ (.int .i64 x4) H8.out)
 have HO' := Aside0.mk (Kd.R_far (p := ⟨g8, 2, none⟩) HO.out (fun k hk => by have := L8.out; show k ≠ g8; omega) (.int .i64 x4))
 have HR := Aside0.mk (Kd.R_reads' HO'.out).2.2
 have HB' := Aside0.mk (HB.out.setCell (p := ⟨g8, 2, none⟩) (by have := N8.out; show w.heap.size ≤ g8; omega) (.int .i64 x4))
 have L8' := Aside0.mk (blk_lt H8'.out)
 clear HG H2 H8 HO HB L8 HO'
 have HG := HG'
 have H2 := H2'
 have H8 := H8'
 have HB := HB'
 have L8 := L8'
 clear HG' H2' H8' HB' L8'
 generalize w6.setCell ⟨g8, 2, none⟩ (.int .i64 x4) = V6 at *
 refine (seal_next.calls w.heap.size _ _ q4 5 x5 q5 e5 _ HG.out HR.out HC.out T5.out).mono ?_
 rintro e w7 ⟨A7, c7, rfl, hg, ho, hgr⟩
 have HG' := Aside0.mk hg
 have HC' := Aside0.mk (Kd.R_reads' ho).2.1
 have HO := Aside0.mk ho
 have H2' := Aside0.mk (blk_grown H2.out hgr (by simp))
 have HB' := Aside0.mk (below_grown HB.out hgr (Nat.le_refl _) (by have := blk_lt HG.out; omega))
 have H8' := Aside0.mk (blk_grown H8.out hgr (by have := N8.out; simp; omega))
 clear hg ho hgr HG HR HC H2 HB H8
 have HG := HG'
 have HC := HC'
 have H2 := H2'
 have HB := HB'
 have H8 := H8'
 clear HG' HC' H2' HB' H8'
 have hc8 := blk_cell H8.out 4
 rw [show (#[.int .i64 x1, .int .i64 x3, .int .i64 x4, .int .i64 x2, .int .i64 0] : Array Value)[4]? = some (.int .i64 0) from rfl] at hc8
 have hf8 := blk_frozen H8.out 4
 go_wp2_with fail
 clear hc8 hf8
 have HG' := Aside0.mk ((heap_setCell_other w7 ⟨g8, 4, none⟩ w.heap.size (.int .i64 x5) (by have := N8.out; show w.heap.size ≠ g8; omega)).trans HG.out)
 have H2' := Aside0.mk ((heap_setCell_other w7 ⟨g8, 4, none⟩ (w.heap.size + 1) (.int .i64 x5) (by have := N8.out; show w.heap.size + 1 ≠ g8; omega)).trans H2.out)
 have H8' := Aside0.mk (show (w7.setCell ⟨g8, 4, none⟩ (.int .i64 x5)).heap[g8]? = some (.cells #[.int .i64 x1, .int .i64 x3, .int .i64 x4, .int .i64 x2, .int .i64 x5] 49 (0, 0)) from heap_setCell_same w7 g8 4 _ _ (.int .i64 x5) H8.out)
 have HO' := Aside0.mk (Kd.R_far (p := ⟨g8, 4, none⟩) HO.out (fun k hk => by have := L8.out; show k ≠ g8; omega) (.int .i64 x5))
 have HR := Aside0.mk (Kd.R_reads' HO'.out).2.2
 have HB' := Aside0.mk (HB.out.setCell (p := ⟨g8, 4, none⟩) (by have := N8.out; show w.heap.size ≤ g8; omega) (.int .i64 x5))
 have L8' := Aside0.mk (blk_lt H8'.out)
 clear HG H2 H8 HO HB L8 HO'
 have HG := HG'
 have H2 := H2'
 have H8 := H8'
 have HB := HB'
 have L8 := L8'
 clear HG' H2' H8' HB' L8'
 generalize w7.setCell ⟨g8, 4, none⟩ (.int .i64 x5) = V7 at *
 refine (seal_next.calls w.heap.size _ _ q5 5 x6 q6 e6 _ HG.out HR.out HC.out T6.out).mono ?_
 rintro e w8 ⟨A8, c8, rfl, hg, ho, hgr⟩
 have HG' := Aside0.mk hg
 have HC' := Aside0.mk (Kd.R_reads' ho).2.1
 have HO := Aside0.mk ho
 have H2' := Aside0.mk (blk_grown H2.out hgr (by simp))
 have HB' := Aside0.mk (below_grown HB.out hgr (Nat.le_refl _) (by have := blk_lt HG.out; omega))
 have H8' := Aside0.mk (blk_grown H8.out hgr (by have := N8.out; simp; omega))
 clear hg ho hgr HG HR HC H2 HB H8
 have HG := HG'
 have HC := HC'
 have H2 := H2'
 have HB := HB'
 have H8 := H8'
 clear HG' HC' H2' HB' H8'
 have H8c : ∀ i, i < 5 → w8.cell? ⟨g8, i, none⟩ = (#[.int .i64 x1, .int .i64 x3, .int .i64 x4, .int .i64 x2, .int .i64 x5] : Array Value)[i]? := fun i _ => blk_cell H8.out i
 have k0 := H8c 0 (by omega)
 have k1 := H8c 1 (by omega)
 have k2 := H8c 2 (by omega)
 have k3 := H8c 3 (by omega)
 have k4 := H8c 4 (by omega)
 rw [show (#[.int .i64 x1, .int .i64 x3, .int .i64 x4, .int .i64 x2, .int .i64 x5] : Array Value)[0]? = some (.int .i64 x1) from rfl] at k0
 rw [show (#[.int .i64 x1, .int .i64 x3, .int .i64 x4, .int .i64 x2, .int .i64 x5] : Array Value)[1]? = some (.int .i64 x3) from rfl] at k1
 rw [show (#[.int .i64 x1, .int .i64 x3, .int .i64 x4, .int .i64 x2, .int .i64 x5] : Array Value)[2]? = some (.int .i64 x4) from rfl] at k2
 rw [show (#[.int .i64 x1, .int .i64 x3, .int .i64 x4, .int .i64 x2, .int .i64 x5] : Array Value)[3]? = some (.int .i64 x2) from rfl] at k3
 rw [show (#[.int .i64 x1, .int .i64 x3, .int .i64 x4, .int .i64 x2, .int .i64 x5] : Array Value)[4]? = some (.int .i64 x5) from rfl] at k4
 have HON := Aside0.mk (fun (v : Value) (hv : v ∈ (#[.int .i64 0, .int .i64 0, .int .i64 0, .int .i64 0, .int .i64 0] : Array Value).toList) => show v.oneCell' = true from by simp at hv; rw [hv]; rfl)
 clear H8c
 by_cases h6 : x6 = 0
 case neg =>
  rw [if_neg (fun q => h6 q.1)] at h
  obtain ⟨rfl, rfl, rfl, rfl, rfl, rfl, rfl⟩ : 0 = r1 ∧ 0 = r2 ∧ 0 = r3 ∧ 0 = r4 ∧ 0 = r5 ∧ [] = r6 ∧ 3 = r7 := by simpa using h
  have hb6 : (x6 != 0) = true := by simpa using h6
  clear h h6
  go_wp2_with (refine Own.wpList_store_row rfl 49 _ _ rfl (w.heap.size + 1) rfl #[.int .i64 0, .int .i64 0, .int .i64 0, .int .i64 0, .int .i64 0] rfl 49 _ H2.out (by kernel_rfl) rfl HON.out ?_)
  exact bodyPost_ret (results_ctt rfl _ _ (w.heap.size + 1) 49 #[.int .i64 0, .int .i64 0, .int .i64 0, .int .i64 0, .int .i64 0] (0, 0) _ rfl (setRow_heap _ _ _ _ _ _ H2.out) Try.underlying49 rfl (by kernel_rfl)) rfl ⟨_, rfl, Kd.R_nil _ _ _ _ _, below_setRow HB.out (by omega) _⟩
 subst h6
 have hb6 : ((0 : Int) != 0) = false := rfl
 by_cases hq : x0 = wrap64 s
 case neg =>
  rw [if_neg (fun q => hq q.2.1)] at h
  obtain ⟨rfl, rfl, rfl, rfl, rfl, rfl, rfl⟩ : 0 = r1 ∧ 0 = r2 ∧ 0 = r3 ∧ 0 = r4 ∧ 0 = r5 ∧ [] = r6 ∧ 3 = r7 := by simpa using h
  have hbq : (x0 == wrap64 s) = false := by simpa using hq
  clear h hq
  go_wp2_with (refine Own.wpList_store_row rfl 49 _ _ rfl (w.heap.size + 1) rfl #[.int .i64 0, .int .i64 0, .int .i64 0, .int .i64 0, .int .i64 0] rfl 49 _ H2.out (by kernel_rfl) rfl HON.out ?_)
  exact bodyPost_ret (results_ctt rfl _ _ (w.heap.size + 1) 49 #[.int .i64 0, .int .i64 0, .int .i64 0, .int .i64 0, .int .i64 0] (0, 0) _ rfl (setRow_heap _ _ _ _ _ _ H2.out) Try.underlying49 rfl (by kernel_rfl)) rfl ⟨_, rfl, Kd.R_nil _ _ _ _ _, below_setRow HB.out (by omega) _⟩
 have hbq : (x0 == wrap64 s) = true := by simpa using hq
 by_cases hm : sealMay x1 x3 x4 x2 x5 = true
 case neg =>
  rw [if_neg (fun q => hm q.2.2)] at h
  obtain ⟨rfl, rfl, rfl, rfl, rfl, rfl, rfl⟩ : 0 = r1 ∧ 0 = r2 ∧ 0 = r3 ∧ 0 = r4 ∧ 0 = r5 ∧ [] = r6 ∧ 3 = r7 := by simpa using h
  have HM := Aside0.mk (show seal_may.f x1 x3 x4 x2 x5 = some false from congrArg some (by simpa using hm))
  clear h hq hm
  go_wp2_with fail
  refine (seal_may.calls x1 x3 x4 x2 x5 false _ HM.out).mono ?_
  rintro e w9 ⟨rfl, hb⟩
  have H2' := Aside0.mk (blk_below H2.out hb)
  have HB' := Aside0.mk (below_step HB.out hb)
  clear hb H2 HB hcell k0 k1 k2 k3 k4
  go_wp2_with (refine Own.wpList_store_row rfl 49 _ _ rfl (w.heap.size + 1) rfl #[.int .i64 0, .int .i64 0, .int .i64 0, .int .i64 0, .int .i64 0] rfl 49 _ H2'.out (by kernel_rfl) rfl HON.out ?_)
  exact bodyPost_ret (results_ctt rfl _ _ (w.heap.size + 1) 49 #[.int .i64 0, .int .i64 0, .int .i64 0, .int .i64 0, .int .i64 0] (0, 0) _ rfl (setRow_heap _ _ _ _ _ _ H2'.out) Try.underlying49 rfl (by kernel_rfl)) rfl ⟨_, rfl, Kd.R_nil _ _ _ _ _, below_setRow HB'.out (by omega) _⟩
 rw [if_pos ⟨rfl, hq, hm⟩] at h
 obtain ⟨rfl, rfl, rfl, rfl, rfl, rfl, rfl⟩ : x1 = r1 ∧ x3 = r2 ∧ x4 = r3 ∧ x2 = r4 ∧ x5 = r5 ∧ q6 = r6 ∧ 0 = r7 := by simpa using h
 have HM := Aside0.mk (show seal_may.f x1 x3 x4 x2 x5 = some true from congrArg some hm)
 clear h hq hm
 go_wp2_with fail
 refine (seal_may.calls x1 x3 x4 x2 x5 true _ HM.out).mono ?_
 rintro e w9 ⟨rfl, hb⟩
 have HG' := Aside0.mk (blk_below HG.out hb)
 have H8' := Aside0.mk (blk_below H8.out hb)
 have H2' := Aside0.mk (blk_below H2.out hb)
 have HB' := Aside0.mk (below_step HB.out hb)
 have HO' := Aside0.mk (Kd.R_below HO.out hb)
 clear hb HG H8 H2 HB HO hcell k0 k1 k2 k3 k4
 have k0 := blk_cell H8'.out 0
 have k1 := blk_cell H8'.out 1
 have k2 := blk_cell H8'.out 2
 have k3 := blk_cell H8'.out 3
 have k4 := blk_cell H8'.out 4
 have kb := blk_cell HG'.out 0
 rw [show (#[.int .i64 x1, .int .i64 x3, .int .i64 x4, .int .i64 x2, .int .i64 x5] : Array Value)[0]? = some (.int .i64 x1) from rfl] at k0
 rw [show (#[.int .i64 x1, .int .i64 x3, .int .i64 x4, .int .i64 x2, .int .i64 x5] : Array Value)[1]? = some (.int .i64 x3) from rfl] at k1
 rw [show (#[.int .i64 x1, .int .i64 x3, .int .i64 x4, .int .i64 x2, .int .i64 x5] : Array Value)[2]? = some (.int .i64 x4) from rfl] at k2
 rw [show (#[.int .i64 x1, .int .i64 x3, .int .i64 x4, .int .i64 x2, .int .i64 x5] : Array Value)[3]? = some (.int .i64 x2) from rfl] at k3
 rw [show (#[.int .i64 x1, .int .i64 x3, .int .i64 x4, .int .i64 x2, .int .i64 x5] : Array Value)[4]? = some (.int .i64 x5) from rfl] at k4
 rw [show (#[Value.slice A8 q6.length c8] : Array Value)[0]? = some (.slice A8 q6.length c8) from rfl] at kb
 go_wp2
 have N1 := N8.out
 have n1 : g8 ≠ w.heap.size + 1 := by omega
 have n2 : w.heap.size + 1 ≠ g8 := by omega
 have m0 := blk_cell H2'.out 0
 have m1 := blk_cell H2'.out 1
 have m2 := blk_cell H2'.out 2
 have m3 := blk_cell H2'.out 3
 have m4 := blk_cell H2'.out 4
 rw [show (#[.int .i64 0, .int .i64 0, .int .i64 0, .int .i64 0, .int .i64 0] : Array Value)[0]? = some (.int .i64 0) from rfl] at m0
 rw [show (#[.int .i64 0, .int .i64 0, .int .i64 0, .int .i64 0, .int .i64 0] : Array Value)[1]? = some (.int .i64 0) from rfl] at m1
 rw [show (#[.int .i64 0, .int .i64 0, .int .i64 0, .int .i64 0, .int .i64 0] : Array Value)[2]? = some (.int .i64 0) from rfl] at m2
 rw [show (#[.int .i64 0, .int .i64 0, .int .i64 0, .int .i64 0, .int .i64 0] : Array Value)[3]? = some (.int .i64 0) from rfl] at m3
 rw [show (#[.int .i64 0, .int .i64 0, .int .i64 0, .int .i64 0, .int .i64 0] : Array Value)[4]? = some (.int .i64 0) from rfl] at m4
 have f0 := blk_frozen H2'.out 0
 have f1 := blk_frozen H2'.out 1
 have f2 := blk_frozen H2'.out 2
 have f3 := blk_frozen H2'.out 3
 have f4 := blk_frozen H2'.out 4
 go_region_held3 (fun w' => w'.cell? ⟨g8, 0, none⟩ = some (.int .i64 x1) ∧ w'.cell? ⟨g8, 1, none⟩ = some (.int .i64 x3) ∧ w'.cell? ⟨g8, 2, none⟩ = some (.int .i64 x4) ∧ w'.cell? ⟨g8, 3, none⟩ = some (.int .i64 x2) ∧ w'.cell? ⟨g8, 4, none⟩ = some (.int .i64 x5) ∧ w'.cell? ⟨w.heap.size, 0, none⟩ = some (.slice A8 q6.length c8)) (go_keep)
  (first | fail)
 go_wp2
 have HF := HO'.out
 have L1 := L8.out
 have hfar : ∀ k, V7.heap.size ≤ k → k ≠ w.heap.size + 1 := fun k hk => by omega
 exact bodyPost_ret (results_ctt rfl _ _ (w.heap.size + 1) 49 #[.int .i64 x1, .int .i64 x3, .int .i64 x4, .int .i64 x2, .int .i64 x5] (0, 0) _ rfl (blk_drew (heap_setCell_same _ _ 4 _ _ _ (heap_setCell_same _ _ 3 _ _ _ (heap_setCell_same _ _ 2 _ _ _ (heap_setCell_same _ _ 1 _ _ _ (heap_setCell_same _ _ 0 _ _ _ H2'.out)))))) Try.underlying49 rfl (by kernel_rfl)) rfl
  ⟨_, rfl, Kd.R_lower (Kd.R_mono (Kd.R_drew (Kd.R_far (p := ⟨w.heap.size + 1, 4, none⟩) (Kd.R_far (p := ⟨w.heap.size + 1, 3, none⟩) (Kd.R_far (p := ⟨w.heap.size + 1, 2, none⟩) (Kd.R_far (p := ⟨w.heap.size + 1, 1, none⟩) (Kd.R_far (p := ⟨w.heap.size + 1, 0, none⟩) HF hfar _) hfar _) hfar _) hfar _) hfar _)) (fun _ _ => trivial)) (by omega),
   below_drew (((((HB'.out.setCell (p := ⟨w.heap.size + 1, 0, none⟩) (by show w.heap.size ≤ w.heap.size + 1; omega) _).setCell (p := ⟨w.heap.size + 1, 1, none⟩) (by show w.heap.size ≤ w.heap.size + 1; omega) _).setCell (p := ⟨w.heap.size + 1, 2, none⟩) (by show w.heap.size ≤ w.heap.size + 1; omega) _).setCell (p := ⟨w.heap.size + 1, 3, none⟩) (by show w.heap.size ≤ w.heap.size + 1; omega) _).setCell (p := ⟨w.heap.size + 1, 4, none⟩) (by show w.heap.size ≤ w.heap.size + 1; omega) _)⟩
theorem seal_Open.calls (A0 : Option Addr) (c0 : Nat) (l0 : List Int) (r1 r2 r3 r4 r5 : Int) (r6 : List Int) (r7 : Int) (w : World) (hr0 : Kd.C (Kd.int .u8) w A0 l0.length l0) (hc0 : l0.length ≤ c0) (h : seal_Open.f l0 = some (r1, r2, r3, r4, r5, r6, r7)) :
  Calls Try.prog 33 #[.slice A0 l0.length c0] w fun e w' => ∃ v5_ : Value, e = .returned (.tuple #[.agg #[.int .i64 r1, .int .i64 r2, .int .i64 r3, .int .i64 r4, .int .i64 r5], v5_, .int .i64 r7]) ∧ Kd.V (Kd.int .u8) 5 w' w.heap.size (fun k_ => (w.heap.size ≤ k_)) v5_ r6 ∧ Below w.heap.size w w' := by
 refine (seal_Open.callsR A0 c0 l0 r1 r2 r3 r4 r5 r6 r7 w hr0 hc0 h).mono ?_
 rintro e w' ⟨v_, rfl, ho, hb⟩
 exact ⟨v_, rfl, Kd.V_mono (Kd.R_V (Kd.R_bound ho)) (fun k_ hk => hk.2.1), hb⟩
/-! ### end of GIVEN -/
/-! ### seal_Check: function 23 -/
def seal_Check.f (l0 : List Int) (a1 : Int) (a2 : Int) : Option (Int × Int × Int × Int × Int × List Int × Int) := (seal_Open.f l0).bind fun bt107 => (if bt107.2.2.2.2.2.2 = 0 then (if bt107.1 = a1 then (if bt107.2.1 = a2 then (some (bt107.1, bt107.2.1, bt107.2.2.1, bt107.2.2.2.1, bt107.2.2.2.2.1, bt107.2.2.2.2.2.1, 0)) else (some (0, 0, 0, 0, 0, ([] : List Int), 3))) else (some (0, 0, 0, 0, 0, ([] : List Int), 3))) else (some (0, 0, 0, 0, 0, ([] : List Int), 3)))
set_option maxHeartbeats 8000000 in
set_option maxRecDepth 100000 in
theorem seal_Check.calls (A0 : Option Addr) (c0 : Nat) (l0 : List Int) (a1 : Int) (a2 : Int) (r1 : Int) (r2 : Int) (r3 : Int) (r4 : Int) (r5 : Int) (r6 : List Int) (r7 : Int) (w : World) (hr0 : Kd.C (Kd.int .u8) w A0 l0.length l0) (hc0 : l0.length ≤ c0) (h : seal_Check.f l0 a1 a2 = some (r1, r2, r3, r4, r5, r6, r7)) :
  Calls Try.prog 23 #[.slice A0 l0.length c0, .int .i64 a1, .int .i64 a2] w fun e w' => ∃ v5_ : Value, e = .returned (.tuple #[.agg #[.int .i64 r1, .int .i64 r2, .int .i64 r3, .int .i64 r4, .int .i64 r5], v5_, .int .i64 r7]) ∧ Kd.V (Kd.int .u8) 5 w' w.heap.size (fun k_ => (w.heap.size ≤ k_)) v5_ r6 ∧ Below w.heap.size w w' := by
 have hu49 := Try.underlying49
 have HR0 := Aside0.mk hr0
 have HC0 := Aside0.mk hc0
 clear hr0 hc0
 have HB := Aside0.mk (Below.refl w.heap.size w)
 have H : ((seal_Open.f l0).bind fun bt107 => (if bt107.2.2.2.2.2.2 = 0 then (if bt107.1 = a1 then (if bt107.2.1 = a2 then (some (bt107.1, bt107.2.1, bt107.2.2.1, bt107.2.2.2.1, bt107.2.2.2.2.1, bt107.2.2.2.2.2.1, 0)) else (some (0, 0, 0, 0, 0, ([] : List Int), 3))) else (some (0, 0, 0, 0, 0, ([] : List Int), 3))) else (some (0, 0, 0, 0, 0, ([] : List Int), 3)))) = some (r1, r2, r3, r4, r5, r6, r7) := h
 clear h
 replace H := Option.bind_eq_some_iff.mp H
 obtain ⟨⟨t107, t108, t109, t110, t111, t112, t115⟩, A40, H⟩ := H
 replace H : (if t115 = 0 then (if t107 = a1 then (if t108 = a2 then (some (t107, t108, t109, t110, t111, t112, 0)) else (some (0, 0, 0, 0, 0, ([] : List Int), 3))) else (some (0, 0, 0, 0, 0, ([] : List Int), 3))) else (some (0, 0, 0, 0, 0, ([] : List Int), 3))) = some (r1, r2, r3, r4, r5, r6, r7) := H
 have A4 := Aside0.mk A40
 clear A40
 by_cases c5 : t115 = 0
 ·rw [if_pos c5] at H
  have c5b0 : (t115 == 0) = true := beq_iff_eq.mpr c5
  have c5b1 : (t115 != 0) = false := bne_eq_false_iff_eq.mpr c5
  clear c5
  by_cases c6 : t107 = a1
  ·rw [if_pos c6] at H
   have c6b0 : (t107 == a1) = true := beq_iff_eq.mpr c6
   have c6b1 : (t107 != a1) = false := bne_eq_false_iff_eq.mpr c6
   clear c6
   by_cases c7 : t108 = a2
   ·rw [if_pos c7] at H
    have c7b0 : (t108 == a2) = true := beq_iff_eq.mpr c7
    have c7b1 : (t108 != a2) = false := bne_eq_false_iff_eq.mpr c7
    clear c7
    simp only [Option.some.injEq, Prod.mk.injEq] at H
    obtain ⟨rfl, rfl, rfl, rfl, rfl, rfl, rfl⟩ := H
    go_enter Try.func23, Try.ntmps23
    go_wp2_with (first | ((with_reducible refine gate_dst (N := 6) rfl ?_); refine box_event ?hg (N := 6) ?hd (cs := #[.int .i64 0, .int .i64 0, .int .i64 0, .int .i64 0, .int .i64 0]) (t := 49) ?hr ?_; (case hd => rfl); (case hg => rfl); (case hr => first | (go_simp; done) | (go_simp; rfl)); intro gb106 hg w8 hbox hb; have n0_ := Aside0.mk (below_step (by repeat (first | (with_reducible first | exact HB.out | apply below_alloc | apply pw_below_drewN | apply below_drew1) | exact HB.out)) hb); have n1_ := Aside0.mk (hbox); have n2_ := Aside0.mk ((by rw [hg]; exact (below_size (by repeat (first | (with_reducible first | exact HB.out | apply below_alloc | apply pw_below_drewN | apply below_drew1) | exact HB.out))) : w.heap.size ≤ gb106)); have n3_ := Aside0.mk ((by rw [hg]; exact (below_size (by repeat (first | (with_reducible first | exact HB.out | apply below_alloc | apply pw_below_drewN | apply below_drew1) | exact HB.out))) : w.heap.size ≤ gb106)); clear HB; have HB := n0_; have BK106 := n1_; have GW106 := n2_; have GE106 := n3_; clear n0_ n1_ n2_ n3_; clear hb hbox hg) | ((with_reducible refine gate_callee (f := 33) rfl ?_); refine goesL_ (some 14) rfl rfl Try.func33 (by kernel_rfl) rfl #[.slice A0 l0.length c0] rfl (by (try simp only [List.map_toArray, List.map_cons, List.map_nil]); first | done | rfl | (simp only [List.length_drop, List.length_take]; rfl)) ?_; (with_reducible refine (seal_Open.calls _ _ l0 t107 t108 t109 t110 t111 t112 t115 _ ?side1 ?side2 A4.out).mono ?_); (case side1 => repeat (first | exact (Kd.C_below HR0.out HB.out) | (with_reducible refine Kd.C_alloc ?_ _) | (with_reducible refine Kd.C_drewN ?_ _) | (with_reducible refine Kd.C_drew ?_))); (case side2 => exact HC0.out); rintro e w9 ⟨v113, rfl, ho0, hb⟩; refine ⟨_, rfl, ?_⟩; have n0_ := Aside0.mk (Kd.V_lower (Kd.V_mono (ok' := fun k_ => (w.heap.size ≤ k_) ∧ k_ ≠ gb106) ho0 (fun k_ hk_ => ⟨(Nat.le_trans (below_size (by repeat (first | (with_reducible first | exact HB.out | apply below_alloc | apply pw_below_drewN | apply below_drew1 | refine below_set ?_ GE106.out) | exact HB.out))) hk_), (Kd.freshB (g := gb106) (o := .cells #[.int .i64 0, .int .i64 0, .int .i64 0, .int .i64 0, .int .i64 0] 49 (0, 0)) (by (with_reducible repeat (first | refine blk_drewN ?_ _ | refine blk_drew ?_ | refine blk_alloc ?_ _)); exact BK106.out) k_ hk_)⟩)) (below_size (by repeat (first | (with_reducible first | exact HB.out | apply below_alloc | apply pw_below_drewN | apply below_drew1 | refine below_set ?_ GE106.out) | exact HB.out)))); have n1_ := Aside0.mk (blk_below (g := gb106) (o := .cells #[.int .i64 0, .int .i64 0, .int .i64 0, .int .i64 0, .int .i64 0] 49 (0, 0)) (by (with_reducible repeat (first | refine blk_drewN ?_ _ | refine blk_drew ?_ | refine blk_alloc ?_ _)); exact BK106.out) hb); have n2_ := Aside0.mk (below_step (by repeat (first | (with_reducible first | exact HB.out | apply below_alloc | apply pw_below_drewN | apply below_drew1 | refine below_set ?_ GE106.out) | exact HB.out)) hb); clear BK106; clear HB; have HO114 := n0_; have BK106 := n1_; have HB := n2_; clear n0_ n1_ n2_; (try clear hb); (try clear hb2); (try clear hk); (try clear hi); (try clear ho0)) | ((with_reducible refine gate_dst (N := 9) rfl ?_); refine box_event ?hg (N := 9) ?hd (cs := #[.int .i64 0, .int .i64 0, .int .i64 0, .int .i64 0, .int .i64 0]) (t := 49) ?hr ?_; (case hd => rfl); (case hg => rfl); (case hr => first | (go_simp; done) | (go_simp; rfl)); intro gb116 hg w10 hbox hb; have n0_ := Aside0.mk (Kd.V_below (Kd.V_elderB (by (with_reducible repeat (first | apply Kd.V_alloc | apply Kd.V_drewN | apply Kd.V_drew)); exact HO114.out) gb116 (Nat.le_of_eq hg.symm)) hb); have n1_ := Aside0.mk (blk_below (g := gb106) (o := .cells #[.int .i64 0, .int .i64 0, .int .i64 0, .int .i64 0, .int .i64 0] 49 (0, 0)) (by (with_reducible repeat (first | refine blk_drewN ?_ _ | refine blk_drew ?_ | refine blk_alloc ?_ _)); exact BK106.out) hb); have n2_ := Aside0.mk (below_step (by repeat (first | (with_reducible first | exact HB.out | apply below_alloc | apply pw_below_drewN | apply below_drew1 | refine below_set ?_ GE106.out) | exact HB.out)) hb); have n3_ := Aside0.mk (hbox); have n4_ := Aside0.mk ((by rw [hg]; exact (below_size (by repeat (first | (with_reducible first | exact HB.out | apply below_alloc | apply pw_below_drewN | apply below_drew1 | refine below_set ?_ GE106.out) | exact HB.out))) : w.heap.size ≤ gb116)); have n5_ := Aside0.mk ((by rw [hg]; exact (below_size (by repeat (first | (with_reducible first | exact HB.out | apply below_alloc | apply pw_below_drewN | apply below_drew1 | refine below_set ?_ GE106.out) | exact HB.out))) : w.heap.size ≤ gb116)); have n6_ := Aside0.mk ((by rw [hg]; exact Nat.ne_of_lt (blk_lt (g := gb106) (o := .cells #[.int .i64 0, .int .i64 0, .int .i64 0, .int .i64 0, .int .i64 0] 49 (0, 0)) (by (with_reducible repeat (first | refine blk_drewN ?_ _ | refine blk_drew ?_ | refine blk_alloc ?_ _)); exact BK106.out)) : gb106 ≠ gb116)); have n7_ := Aside0.mk ((by rw [hg]; exact Nat.ne_of_gt (blk_lt (g := gb106) (o := .cells #[.int .i64 0, .int .i64 0, .int .i64 0, .int .i64 0, .int .i64 0] 49 (0, 0)) (by (with_reducible repeat (first | refine blk_drewN ?_ _ | refine blk_drew ?_ | refine blk_alloc ?_ _)); exact BK106.out)) : gb116 ≠ gb106)); clear HO114; clear BK106; clear HB; have HO114 := n0_; have BK106 := n1_; have HB := n2_; have BK116 := n3_; have GW116 := n4_; have GE116 := n5_; have NB106_116 := n6_; have NB116_106 := n7_; clear n0_ n1_ n2_ n3_ n4_ n5_ n6_ n7_; clear hb hbox hg; have hnb11 := NB116_106.out; have hnc11 := NB106_116.out; have hcz12_0 : w10.cell? ⟨gb116, 0, none⟩ = some (.int .i64 0) := (blk_cell BK116.out 0).trans rfl; have hcz12_1 : w10.cell? ⟨gb116, 1, none⟩ = some (.int .i64 0) := (blk_cell BK116.out 1).trans rfl; have hcz12_2 : w10.cell? ⟨gb116, 2, none⟩ = some (.int .i64 0) := (blk_cell BK116.out 2).trans rfl; have hcz12_3 : w10.cell? ⟨gb116, 3, none⟩ = some (.int .i64 0) := (blk_cell BK116.out 3).trans rfl; have hcz12_4 : w10.cell? ⟨gb116, 4, none⟩ = some (.int .i64 0) := (blk_cell BK116.out 4).trans rfl; have hfz12_0 := blk_frozen BK116.out 0; have hfz12_1 := blk_frozen BK116.out 1; have hfz12_2 := blk_frozen BK116.out 2; have hfz12_3 := blk_frozen BK116.out 3; have hfz12_4 := blk_frozen BK116.out 4; have hcz13_0 : w10.cell? ⟨gb106, 0, none⟩ = some (.int .i64 0) := (blk_cell BK106.out 0).trans rfl; have hcz13_1 : w10.cell? ⟨gb106, 1, none⟩ = some (.int .i64 0) := (blk_cell BK106.out 1).trans rfl; have hcz13_2 : w10.cell? ⟨gb106, 2, none⟩ = some (.int .i64 0) := (blk_cell BK106.out 2).trans rfl; have hcz13_3 : w10.cell? ⟨gb106, 3, none⟩ = some (.int .i64 0) := (blk_cell BK106.out 3).trans rfl; have hcz13_4 : w10.cell? ⟨gb106, 4, none⟩ = some (.int .i64 0) := (blk_cell BK106.out 4).trans rfl; have hfz13_0 := blk_frozen BK106.out 0; have hfz13_1 := blk_frozen BK106.out 1; have hfz13_2 := blk_frozen BK106.out 2; have hfz13_3 := blk_frozen BK106.out 3; have hfz13_4 := blk_frozen BK106.out 4))
    refine bodyPost_ret (results_ctt rfl _ _ gb106 49 #[.int .i64 t107, .int .i64 t108, .int .i64 t109, .int .i64 t110, .int .i64 t111] (0, 0) _ rfl (by (with_reducible repeat (first | refine blk_drewN ?_ _ | refine blk_drew ?_ | refine blk_alloc ?_ _)); refine blk_put (cs := #[.int .i64 t107, .int .i64 t108, .int .i64 t109, .int .i64 t110, .int .i64 0]) ?_ 4 _ rfl; (with_reducible repeat (first | refine blk_drewN ?_ _ | refine blk_drew ?_ | refine blk_alloc ?_ _)); refine blk_put (cs := #[.int .i64 t107, .int .i64 t108, .int .i64 t109, .int .i64 0, .int .i64 0]) ?_ 3 _ rfl; (with_reducible repeat (first | refine blk_drewN ?_ _ | refine blk_drew ?_ | refine blk_alloc ?_ _)); refine blk_put (cs := #[.int .i64 t107, .int .i64 t108, .int .i64 0, .int .i64 0, .int .i64 0]) ?_ 2 _ rfl; (with_reducible repeat (first | refine blk_drewN ?_ _ | refine blk_drew ?_ | refine blk_alloc ?_ _)); refine blk_put (cs := #[.int .i64 t107, .int .i64 0, .int .i64 0, .int .i64 0, .int .i64 0]) ?_ 1 _ rfl; (with_reducible repeat (first | refine blk_drewN ?_ _ | refine blk_drew ?_ | refine blk_alloc ?_ _)); refine blk_put (cs := #[.int .i64 0, .int .i64 0, .int .i64 0, .int .i64 0, .int .i64 0]) ?_ 0 _ rfl; (with_reducible repeat (first | refine blk_drewN ?_ _ | refine blk_drew ?_ | refine blk_alloc ?_ _)); refine blk_far ?_ NB106_116.out _; (with_reducible repeat (first | refine blk_drewN ?_ _ | refine blk_drew ?_ | refine blk_alloc ?_ _)); refine blk_far ?_ NB106_116.out _; (with_reducible repeat (first | refine blk_drewN ?_ _ | refine blk_drew ?_ | refine blk_alloc ?_ _)); refine blk_far ?_ NB106_116.out _; (with_reducible repeat (first | refine blk_drewN ?_ _ | refine blk_drew ?_ | refine blk_alloc ?_ _)); refine blk_far ?_ NB106_116.out _; (with_reducible repeat (first | refine blk_drewN ?_ _ | refine blk_drew ?_ | refine blk_alloc ?_ _)); refine blk_far ?_ NB106_116.out _; (with_reducible repeat (first | refine blk_drewN ?_ _ | refine blk_drew ?_ | refine blk_alloc ?_ _)); exact BK106.out) Try.underlying49 rfl (by kernel_rfl)) rfl ?_
    exact ⟨_, by first | rfl | (simp [errW_none, errW_some] <;> rfl) | (simp [*, errW_none, errW_some] <;> rfl), by (with_reducible repeat (first | apply Kd.V_alloc | apply Kd.V_drewN | apply Kd.V_drew)); exact Kd.V_mono (Kd.V_far (p := ⟨gb106, 4, none⟩) (Kd.V_far (p := ⟨gb106, 3, none⟩) (Kd.V_far (p := ⟨gb106, 2, none⟩) (Kd.V_far (p := ⟨gb106, 1, none⟩) (Kd.V_far (p := ⟨gb106, 0, none⟩) (Kd.V_far (p := ⟨gb116, 4, none⟩) (Kd.V_far (p := ⟨gb116, 3, none⟩) (Kd.V_far (p := ⟨gb116, 2, none⟩) (Kd.V_far (p := ⟨gb116, 1, none⟩) (Kd.V_far (p := ⟨gb116, 0, none⟩) (Kd.V_mono (Kd.V_mono HO114.out (fun k_ hk => (⟨hk, hk.2⟩ : _ ∧ k_ ≠ gb116))) (fun k_ hk => (⟨hk, hk.1.1.2⟩ : _ ∧ k_ ≠ gb106))) (fun _ hk => hk.1.2) (.int .i64 t107)) (fun _ hk => hk.1.2) (.int .i64 t108)) (fun _ hk => hk.1.2) (.int .i64 t109)) (fun _ hk => hk.1.2) (.int .i64 t110)) (fun _ hk => hk.1.2) (.int .i64 t111)) (fun _ hk => hk.2) (.int .i64 t107)) (fun _ hk => hk.2) (.int .i64 t108)) (fun _ hk => hk.2) (.int .i64 t109)) (fun _ hk => hk.2) (.int .i64 t110)) (fun _ hk => hk.2) (.int .i64 t111)) (fun _ hk => hk.1.1.1.1), by repeat (first | (with_reducible first | exact HB.out | apply below_alloc | apply pw_below_drewN | apply below_drew1 | refine below_set ?_ GE106.out | refine below_set ?_ GE116.out) | exact HB.out)⟩
   ·rw [if_neg c7] at H
    have c7b0 : (t108 == a2) = false := beq_eq_false_iff_ne.mpr c7
    have c7b1 : (t108 != a2) = true := bne_iff_ne.mpr c7
    simp only [Option.some.injEq, Prod.mk.injEq] at H
    obtain ⟨rfl, rfl, rfl, rfl, rfl, rfl, rfl⟩ := H
    go_enter Try.func23, Try.ntmps23
    go_wp2_with (first | ((with_reducible refine gate_dst (N := 6) rfl ?_); refine box_event ?hg (N := 6) ?hd (cs := #[.int .i64 0, .int .i64 0, .int .i64 0, .int .i64 0, .int .i64 0]) (t := 49) ?hr ?_; (case hd => rfl); (case hg => rfl); (case hr => first | (go_simp; done) | (go_simp; rfl)); intro gb106 hg w14 hbox hb; have n0_ := Aside0.mk (below_step (by repeat (first | (with_reducible first | exact HB.out | apply below_alloc | apply pw_below_drewN | apply below_drew1) | exact HB.out)) hb); have n1_ := Aside0.mk (hbox); have n2_ := Aside0.mk ((by rw [hg]; exact (below_size (by repeat (first | (with_reducible first | exact HB.out | apply below_alloc | apply pw_below_drewN | apply below_drew1) | exact HB.out))) : w.heap.size ≤ gb106)); have n3_ := Aside0.mk ((by rw [hg]; exact (below_size (by repeat (first | (with_reducible first | exact HB.out | apply below_alloc | apply pw_below_drewN | apply below_drew1) | exact HB.out))) : w.heap.size ≤ gb106)); clear HB; have HB := n0_; have BK106 := n1_; have GW106 := n2_; have GE106 := n3_; clear n0_ n1_ n2_ n3_; clear hb hbox hg) | ((with_reducible refine gate_callee (f := 33) rfl ?_); refine goesL_ (some 14) rfl rfl Try.func33 (by kernel_rfl) rfl #[.slice A0 l0.length c0] rfl (by (try simp only [List.map_toArray, List.map_cons, List.map_nil]); first | done | rfl | (simp only [List.length_drop, List.length_take]; rfl)) ?_; (with_reducible refine (seal_Open.calls _ _ l0 t107 t108 t109 t110 t111 t112 t115 _ ?side1 ?side2 A4.out).mono ?_); (case side1 => repeat (first | exact (Kd.C_below HR0.out HB.out) | (with_reducible refine Kd.C_alloc ?_ _) | (with_reducible refine Kd.C_drewN ?_ _) | (with_reducible refine Kd.C_drew ?_))); (case side2 => exact HC0.out); rintro e w15 ⟨v113, rfl, ho0, hb⟩; refine ⟨_, rfl, ?_⟩; have n0_ := Aside0.mk (Kd.V_lower (Kd.V_mono (ok' := fun k_ => (w.heap.size ≤ k_) ∧ k_ ≠ gb106) ho0 (fun k_ hk_ => ⟨(Nat.le_trans (below_size (by repeat (first | (with_reducible first | exact HB.out | apply below_alloc | apply pw_below_drewN | apply below_drew1 | refine below_set ?_ GE106.out) | exact HB.out))) hk_), (Kd.freshB (g := gb106) (o := .cells #[.int .i64 0, .int .i64 0, .int .i64 0, .int .i64 0, .int .i64 0] 49 (0, 0)) (by (with_reducible repeat (first | refine blk_drewN ?_ _ | refine blk_drew ?_ | refine blk_alloc ?_ _)); exact BK106.out) k_ hk_)⟩)) (below_size (by repeat (first | (with_reducible first | exact HB.out | apply below_alloc | apply pw_below_drewN | apply below_drew1 | refine below_set ?_ GE106.out) | exact HB.out)))); have n1_ := Aside0.mk (blk_below (g := gb106) (o := .cells #[.int .i64 0, .int .i64 0, .int .i64 0, .int .i64 0, .int .i64 0] 49 (0, 0)) (by (with_reducible repeat (first | refine blk_drewN ?_ _ | refine blk_drew ?_ | refine blk_alloc ?_ _)); exact BK106.out) hb); have n2_ := Aside0.mk (below_step (by repeat (first | (with_reducible first | exact HB.out | apply below_alloc | apply pw_below_drewN | apply below_drew1 | refine below_set ?_ GE106.out) | exact HB.out)) hb); clear BK106; clear HB; have HO114 := n0_; have BK106 := n1_; have HB := n2_; clear n0_ n1_ n2_; (try clear hb); (try clear hb2); (try clear hk); (try clear hi); (try clear ho0)) | ((with_reducible refine gate_dst (N := 9) rfl ?_); refine box_event ?hg (N := 9) ?hd (cs := #[.int .i64 0, .int .i64 0, .int .i64 0, .int .i64 0, .int .i64 0]) (t := 49) ?hr ?_; (case hd => rfl); (case hg => rfl); (case hr => first | (go_simp; done) | (go_simp; rfl)); intro gb116 hg w16 hbox hb; have n0_ := Aside0.mk (Kd.V_below (Kd.V_elderB (by (with_reducible repeat (first | apply Kd.V_alloc | apply Kd.V_drewN | apply Kd.V_drew)); exact HO114.out) gb116 (Nat.le_of_eq hg.symm)) hb); have n1_ := Aside0.mk (blk_below (g := gb106) (o := .cells #[.int .i64 0, .int .i64 0, .int .i64 0, .int .i64 0, .int .i64 0] 49 (0, 0)) (by (with_reducible repeat (first | refine blk_drewN ?_ _ | refine blk_drew ?_ | refine blk_alloc ?_ _)); exact BK106.out) hb); have n2_ := Aside0.mk (below_step (by repeat (first | (with_reducible first | exact HB.out | apply below_alloc | apply pw_below_drewN | apply below_drew1 | refine below_set ?_ GE106.out) | exact HB.out)) hb); have n3_ := Aside0.mk (hbox); have n4_ := Aside0.mk ((by rw [hg]; exact (below_size (by repeat (first | (with_reducible first | exact HB.out | apply below_alloc | apply pw_below_drewN | apply below_drew1 | refine below_set ?_ GE106.out) | exact HB.out))) : w.heap.size ≤ gb116)); have n5_ := Aside0.mk ((by rw [hg]; exact (below_size (by repeat (first | (with_reducible first | exact HB.out | apply below_alloc | apply pw_below_drewN | apply below_drew1 | refine below_set ?_ GE106.out) | exact HB.out))) : w.heap.size ≤ gb116)); have n6_ := Aside0.mk ((by rw [hg]; exact Nat.ne_of_lt (blk_lt (g := gb106) (o := .cells #[.int .i64 0, .int .i64 0, .int .i64 0, .int .i64 0, .int .i64 0] 49 (0, 0)) (by (with_reducible repeat (first | refine blk_drewN ?_ _ | refine blk_drew ?_ | refine blk_alloc ?_ _)); exact BK106.out)) : gb106 ≠ gb116)); have n7_ := Aside0.mk ((by rw [hg]; exact Nat.ne_of_gt (blk_lt (g := gb106) (o := .cells #[.int .i64 0, .int .i64 0, .int .i64 0, .int .i64 0, .int .i64 0] 49 (0, 0)) (by (with_reducible repeat (first | refine blk_drewN ?_ _ | refine blk_drew ?_ | refine blk_alloc ?_ _)); exact BK106.out)) : gb116 ≠ gb106)); clear HO114; clear BK106; clear HB; have HO114 := n0_; have BK106 := n1_; have HB := n2_; have BK116 := n3_; have GW116 := n4_; have GE116 := n5_; have NB106_116 := n6_; have NB116_106 := n7_; clear n0_ n1_ n2_ n3_ n4_ n5_ n6_ n7_; clear hb hbox hg; have hnb17 := NB116_106.out; have hnc17 := NB106_116.out; have hcz18_0 : w16.cell? ⟨gb116, 0, none⟩ = some (.int .i64 0) := (blk_cell BK116.out 0).trans rfl; have hcz18_1 : w16.cell? ⟨gb116, 1, none⟩ = some (.int .i64 0) := (blk_cell BK116.out 1).trans rfl; have hcz18_2 : w16.cell? ⟨gb116, 2, none⟩ = some (.int .i64 0) := (blk_cell BK116.out 2).trans rfl; have hcz18_3 : w16.cell? ⟨gb116, 3, none⟩ = some (.int .i64 0) := (blk_cell BK116.out 3).trans rfl; have hcz18_4 : w16.cell? ⟨gb116, 4, none⟩ = some (.int .i64 0) := (blk_cell BK116.out 4).trans rfl; have hfz18_0 := blk_frozen BK116.out 0; have hfz18_1 := blk_frozen BK116.out 1; have hfz18_2 := blk_frozen BK116.out 2; have hfz18_3 := blk_frozen BK116.out 3; have hfz18_4 := blk_frozen BK116.out 4; have hcz19_0 : w16.cell? ⟨gb106, 0, none⟩ = some (.int .i64 0) := (blk_cell BK106.out 0).trans rfl; have hcz19_1 : w16.cell? ⟨gb106, 1, none⟩ = some (.int .i64 0) := (blk_cell BK106.out 1).trans rfl; have hcz19_2 : w16.cell? ⟨gb106, 2, none⟩ = some (.int .i64 0) := (blk_cell BK106.out 2).trans rfl; have hcz19_3 : w16.cell? ⟨gb106, 3, none⟩ = some (.int .i64 0) := (blk_cell BK106.out 3).trans rfl; have hcz19_4 : w16.cell? ⟨gb106, 4, none⟩ = some (.int .i64 0) := (blk_cell BK106.out 4).trans rfl; have hfz19_0 := blk_frozen BK106.out 0; have hfz19_1 := blk_frozen BK106.out 1; have hfz19_2 := blk_frozen BK106.out 2; have hfz19_3 := blk_frozen BK106.out 3; have hfz19_4 := blk_frozen BK106.out 4))
    refine bodyPost_ret (results_ctt rfl _ _ gb106 49 #[.int .i64 0, .int .i64 0, .int .i64 0, .int .i64 0, .int .i64 0] (0, 0) _ rfl (by (with_reducible repeat (first | refine blk_drewN ?_ _ | refine blk_drew ?_ | refine blk_alloc ?_ _)); refine blk_put (cs := #[.int .i64 0, .int .i64 0, .int .i64 0, .int .i64 0, .int .i64 0]) ?_ 4 _ rfl; (with_reducible repeat (first | refine blk_drewN ?_ _ | refine blk_drew ?_ | refine blk_alloc ?_ _)); refine blk_put (cs := #[.int .i64 0, .int .i64 0, .int .i64 0, .int .i64 0, .int .i64 0]) ?_ 3 _ rfl; (with_reducible repeat (first | refine blk_drewN ?_ _ | refine blk_drew ?_ | refine blk_alloc ?_ _)); refine blk_put (cs := #[.int .i64 0, .int .i64 0, .int .i64 0, .int .i64 0, .int .i64 0]) ?_ 2 _ rfl; (with_reducible repeat (first | refine blk_drewN ?_ _ | refine blk_drew ?_ | refine blk_alloc ?_ _)); refine blk_put (cs := #[.int .i64 0, .int .i64 0, .int .i64 0, .int .i64 0, .int .i64 0]) ?_ 1 _ rfl; (with_reducible repeat (first | refine blk_drewN ?_ _ | refine blk_drew ?_ | refine blk_alloc ?_ _)); refine blk_put (cs := #[.int .i64 0, .int .i64 0, .int .i64 0, .int .i64 0, .int .i64 0]) ?_ 0 _ rfl; (with_reducible repeat (first | refine blk_drewN ?_ _ | refine blk_drew ?_ | refine blk_alloc ?_ _)); refine blk_far ?_ NB106_116.out _; (with_reducible repeat (first | refine blk_drewN ?_ _ | refine blk_drew ?_ | refine blk_alloc ?_ _)); refine blk_far ?_ NB106_116.out _; (with_reducible repeat (first | refine blk_drewN ?_ _ | refine blk_drew ?_ | refine blk_alloc ?_ _)); refine blk_far ?_ NB106_116.out _; (with_reducible repeat (first | refine blk_drewN ?_ _ | refine blk_drew ?_ | refine blk_alloc ?_ _)); refine blk_far ?_ NB106_116.out _; (with_reducible repeat (first | refine blk_drewN ?_ _ | refine blk_drew ?_ | refine blk_alloc ?_ _)); refine blk_far ?_ NB106_116.out _; (with_reducible repeat (first | refine blk_drewN ?_ _ | refine blk_drew ?_ | refine blk_alloc ?_ _)); exact BK106.out) Try.underlying49 rfl (by kernel_rfl)) rfl ?_
    exact ⟨_, by first | rfl | (simp [errW_none, errW_some] <;> rfl) | (simp [*, errW_none, errW_some] <;> rfl), Kd.V_nil _ _ _ _ _, by repeat (first | (with_reducible first | exact HB.out | apply below_alloc | apply pw_below_drewN | apply below_drew1 | refine below_set ?_ GE106.out | refine below_set ?_ GE116.out) | exact HB.out)⟩
  ·rw [if_neg c6] at H
   have c6b0 : (t107 == a1) = false := beq_eq_false_iff_ne.mpr c6
   have c6b1 : (t107 != a1) = true := bne_iff_ne.mpr c6
   simp only [Option.some.injEq, Prod.mk.injEq] at H
   obtain ⟨rfl, rfl, rfl, rfl, rfl, rfl, rfl⟩ := H
   go_enter Try.func23, Try.ntmps23
   go_wp2_with (first | ((with_reducible refine gate_dst (N := 6) rfl ?_); refine box_event ?hg (N := 6) ?hd (cs := #[.int .i64 0, .int .i64 0, .int .i64 0, .int .i64 0, .int .i64 0]) (t := 49) ?hr ?_; (case hd => rfl); (case hg => rfl); (case hr => first | (go_simp; done) | (go_simp; rfl)); intro gb106 hg w20 hbox hb; have n0_ := Aside0.mk (below_step (by repeat (first | (with_reducible first | exact HB.out | apply below_alloc | apply pw_below_drewN | apply below_drew1) | exact HB.out)) hb); have n1_ := Aside0.mk (hbox); have n2_ := Aside0.mk ((by rw [hg]; exact (below_size (by repeat (first | (with_reducible first | exact HB.out | apply below_alloc | apply pw_below_drewN | apply below_drew1) | exact HB.out))) : w.heap.size ≤ gb106)); have n3_ := Aside0.mk ((by rw [hg]; exact (below_size (by repeat (first | (with_reducible first | exact HB.out | apply below_alloc | apply pw_below_drewN | apply below_drew1) | exact HB.out))) : w.heap.size ≤ gb106)); clear HB; have HB := n0_; have BK106 := n1_; have GW106 := n2_; have GE106 := n3_; clear n0_ n1_ n2_ n3_; clear hb hbox hg) | ((with_reducible refine gate_callee (f := 33) rfl ?_); refine goesL_ (some 14) rfl rfl Try.func33 (by kernel_rfl) rfl #[.slice A0 l0.length c0] rfl (by (try simp only [List.map_toArray, List.map_cons, List.map_nil]); first | done | rfl | (simp only [List.length_drop, List.length_take]; rfl)) ?_; (with_reducible refine (seal_Open.calls _ _ l0 t107 t108 t109 t110 t111 t112 t115 _ ?side1 ?side2 A4.out).mono ?_); (case side1 => repeat (first | exact (Kd.C_below HR0.out HB.out) | (with_reducible refine Kd.C_alloc ?_ _) | (with_reducible refine Kd.C_drewN ?_ _) | (with_reducible refine Kd.C_drew ?_))); (case side2 => exact HC0.out); rintro e w21 ⟨v113, rfl, ho0, hb⟩; refine ⟨_, rfl, ?_⟩; have n0_ := Aside0.mk (Kd.V_lower (Kd.V_mono (ok' := fun k_ => (w.heap.size ≤ k_) ∧ k_ ≠ gb106) ho0 (fun k_ hk_ => ⟨(Nat.le_trans (below_size (by repeat (first | (with_reducible first | exact HB.out | apply below_alloc | apply pw_below_drewN | apply below_drew1 | refine below_set ?_ GE106.out) | exact HB.out))) hk_), (Kd.freshB (g := gb106) (o := .cells #[.int .i64 0, .int .i64 0, .int .i64 0, .int .i64 0, .int .i64 0] 49 (0, 0)) (by (with_reducible repeat (first | refine blk_drewN ?_ _ | refine blk_drew ?_ | refine blk_alloc ?_ _)); exact BK106.out) k_ hk_)⟩)) (below_size (by repeat (first | (with_reducible first | exact HB.out | apply below_alloc | apply pw_below_drewN | apply below_drew1 | refine below_set ?_ GE106.out) | exact HB.out)))); have n1_ := Aside0.mk (blk_below (g := gb106) (o := .cells #[.int .i64 0, .int .i64 0, .int .i64 0, .int .i64 0, .int .i64 0] 49 (0, 0)) (by (with_reducible repeat (first | refine blk_drewN ?_ _ | refine blk_drew ?_ | refine blk_alloc ?_ _)); exact BK106.out) hb); have n2_ := Aside0.mk (below_step (by repeat (first | (with_reducible first | exact HB.out | apply below_alloc | apply pw_below_drewN | apply below_drew1 | refine below_set ?_ GE106.out) | exact HB.out)) hb); clear BK106; clear HB; have HO114 := n0_; have BK106 := n1_; have HB := n2_; clear n0_ n1_ n2_; (try clear hb); (try clear hb2); (try clear hk); (try clear hi); (try clear ho0)) | ((with_reducible refine gate_dst (N := 9) rfl ?_); refine box_event ?hg (N := 9) ?hd (cs := #[.int .i64 0, .int .i64 0, .int .i64 0, .int .i64 0, .int .i64 0]) (t := 49) ?hr ?_; (case hd => rfl); (case hg => rfl); (case hr => first | (go_simp; done) | (go_simp; rfl)); intro gb116 hg w22 hbox hb; have n0_ := Aside0.mk (Kd.V_below (Kd.V_elderB (by (with_reducible repeat (first | apply Kd.V_alloc | apply Kd.V_drewN | apply Kd.V_drew)); exact HO114.out) gb116 (Nat.le_of_eq hg.symm)) hb); have n1_ := Aside0.mk (blk_below (g := gb106) (o := .cells #[.int .i64 0, .int .i64 0, .int .i64 0, .int .i64 0, .int .i64 0] 49 (0, 0)) (by (with_reducible repeat (first | refine blk_drewN ?_ _ | refine blk_drew ?_ | refine blk_alloc ?_ _)); exact BK106.out) hb); have n2_ := Aside0.mk (below_step (by repeat (first | (with_reducible first | exact HB.out | apply below_alloc | apply pw_below_drewN | apply below_drew1 | refine below_set ?_ GE106.out) | exact HB.out)) hb); have n3_ := Aside0.mk (hbox); have n4_ := Aside0.mk ((by rw [hg]; exact (below_size (by repeat (first | (with_reducible first | exact HB.out | apply below_alloc | apply pw_below_drewN | apply below_drew1 | refine below_set ?_ GE106.out) | exact HB.out))) : w.heap.size ≤ gb116)); have n5_ := Aside0.mk ((by rw [hg]; exact (below_size (by repeat (first | (with_reducible first | exact HB.out | apply below_alloc | apply pw_below_drewN | apply below_drew1 | refine below_set ?_ GE106.out) | exact HB.out))) : w.heap.size ≤ gb116)); have n6_ := Aside0.mk ((by rw [hg]; exact Nat.ne_of_lt (blk_lt (g := gb106) (o := .cells #[.int .i64 0, .int .i64 0, .int .i64 0, .int .i64 0, .int .i64 0] 49 (0, 0)) (by (with_reducible repeat (first | refine blk_drewN ?_ _ | refine blk_drew ?_ | refine blk_alloc ?_ _)); exact BK106.out)) : gb106 ≠ gb116)); have n7_ := Aside0.mk ((by rw [hg]; exact Nat.ne_of_gt (blk_lt (g := gb106) (o := .cells #[.int .i64 0, .int .i64 0, .int .i64 0, .int .i64 0, .int .i64 0] 49 (0, 0)) (by (with_reducible repeat (first | refine blk_drewN ?_ _ | refine blk_drew ?_ | refine blk_alloc ?_ _)); exact BK106.out)) : gb116 ≠ gb106)); clear HO114; clear BK106; clear HB; have HO114 := n0_; have BK106 := n1_; have HB := n2_; have BK116 := n3_; have GW116 := n4_; have GE116 := n5_; have NB106_116 := n6_; have NB116_106 := n7_; clear n0_ n1_ n2_ n3_ n4_ n5_ n6_ n7_; clear hb hbox hg; have hnb23 := NB116_106.out; have hnc23 := NB106_116.out; have hcz24_0 : w22.cell? ⟨gb116, 0, none⟩ = some (.int .i64 0) := (blk_cell BK116.out 0).trans rfl; have hcz24_1 : w22.cell? ⟨gb116, 1, none⟩ = some (.int .i64 0) := (blk_cell BK116.out 1).trans rfl; have hcz24_2 : w22.cell? ⟨gb116, 2, none⟩ = some (.int .i64 0) := (blk_cell BK116.out 2).trans rfl; have hcz24_3 : w22.cell? ⟨gb116, 3, none⟩ = some (.int .i64 0) := (blk_cell BK116.out 3).trans rfl; have hcz24_4 : w22.cell? ⟨gb116, 4, none⟩ = some (.int .i64 0) := (blk_cell BK116.out 4).trans rfl; have hfz24_0 := blk_frozen BK116.out 0; have hfz24_1 := blk_frozen BK116.out 1; have hfz24_2 := blk_frozen BK116.out 2; have hfz24_3 := blk_frozen BK116.out 3; have hfz24_4 := blk_frozen BK116.out 4; have hcz25_0 : w22.cell? ⟨gb106, 0, none⟩ = some (.int .i64 0) := (blk_cell BK106.out 0).trans rfl; have hcz25_1 : w22.cell? ⟨gb106, 1, none⟩ = some (.int .i64 0) := (blk_cell BK106.out 1).trans rfl; have hcz25_2 : w22.cell? ⟨gb106, 2, none⟩ = some (.int .i64 0) := (blk_cell BK106.out 2).trans rfl; have hcz25_3 : w22.cell? ⟨gb106, 3, none⟩ = some (.int .i64 0) := (blk_cell BK106.out 3).trans rfl; have hcz25_4 : w22.cell? ⟨gb106, 4, none⟩ = some (.int .i64 0) := (blk_cell BK106.out 4).trans rfl; have hfz25_0 := blk_frozen BK106.out 0; have hfz25_1 := blk_frozen BK106.out 1; have hfz25_2 := blk_frozen BK106.out 2; have hfz25_3 := blk_frozen BK106.out 3; have hfz25_4 := blk_frozen BK106.out 4))
   refine bodyPost_ret (results_ctt rfl _ _ gb106 49 #[.int .i64 0, .int .i64 0, .int .i64 0, .int .i64 0, .int .i64 0] (0, 0) _ rfl (by (with_reducible repeat (first | refine blk_drewN ?_ _ | refine blk_drew ?_ | refine blk_alloc ?_ _)); refine blk_put (cs := #[.int .i64 0, .int .i64 0, .int .i64 0, .int .i64 0, .int .i64 0]) ?_ 4 _ rfl; (with_reducible repeat (first | refine blk_drewN ?_ _ | refine blk_drew ?_ | refine blk_alloc ?_ _)); refine blk_put (cs := #[.int .i64 0, .int .i64 0, .int .i64 0, .int .i64 0, .int .i64 0]) ?_ 3 _ rfl; (with_reducible repeat (first | refine blk_drewN ?_ _ | refine blk_drew ?_ | refine blk_alloc ?_ _)); refine blk_put (cs := #[.int .i64 0, .int .i64 0, .int .i64 0, .int .i64 0, .int .i64 0]) ?_ 2 _ rfl; (with_reducible repeat (first | refine blk_drewN ?_ _ | refine blk_drew ?_ | refine blk_alloc ?_ _)); refine blk_put (cs := #[.int .i64 0, .int .i64 0, .int .i64 0, .int .i64 0, .int .i64 0]) ?_ 1 _ rfl; (with_reducible repeat (first | refine blk_drewN ?_ _ | refine blk_drew ?_ | refine blk_alloc ?_ _)); refine blk_put (cs := #[.int .i64 0, .int .i64 0, .int .i64 0, .int .i64 0, .int .i64 0]) ?_ 0 _ rfl; (with_reducible repeat (first | refine blk_drewN ?_ _ | refine blk_drew ?_ | refine blk_alloc ?_ _)); refine blk_far ?_ NB106_116.out _; (with_reducible repeat (first | refine blk_drewN ?_ _ | refine blk_drew ?_ | refine blk_alloc ?_ _)); refine blk_far ?_ NB106_116.out _; (with_reducible repeat (first | refine blk_drewN ?_ _ | refine blk_drew ?_ | refine blk_alloc ?_ _)); refine blk_far ?_ NB106_116.out _; (with_reducible repeat (first | refine blk_drewN ?_ _ | refine blk_drew ?_ | refine blk_alloc ?_ _)); refine blk_far ?_ NB106_116.out _; (with_reducible repeat (first | refine blk_drewN ?_ _ | refine blk_drew ?_ | refine blk_alloc ?_ _)); refine blk_far ?_ NB106_116.out _; (with_reducible repeat (first | refine blk_drewN ?_ _ | refine blk_drew ?_ | refine blk_alloc ?_ _)); exact BK106.out) Try.underlying49 rfl (by kernel_rfl)) rfl ?_
   exact ⟨_, by first | rfl | (simp [errW_none, errW_some] <;> rfl) | (simp [*, errW_none, errW_some] <;> rfl), Kd.V_nil _ _ _ _ _, by repeat (first | (with_reducible first | exact HB.out | apply below_alloc | apply pw_below_drewN | apply below_drew1 | refine below_set ?_ GE106.out | refine below_set ?_ GE116.out) | exact HB.out)⟩
 ·rw [if_neg c5] at H
  have c5b0 : (t115 == 0) = false := beq_eq_false_iff_ne.mpr c5
  have c5b1 : (t115 != 0) = true := bne_iff_ne.mpr c5
  simp only [Option.some.injEq, Prod.mk.injEq] at H
  obtain ⟨rfl, rfl, rfl, rfl, rfl, rfl, rfl⟩ := H
  go_enter Try.func23, Try.ntmps23
  go_wp2_with (first | ((with_reducible refine gate_dst (N := 6) rfl ?_); refine box_event ?hg (N := 6) ?hd (cs := #[.int .i64 0, .int .i64 0, .int .i64 0, .int .i64 0, .int .i64 0]) (t := 49) ?hr ?_; (case hd => rfl); (case hg => rfl); (case hr => first | (go_simp; done) | (go_simp; rfl)); intro gb106 hg w26 hbox hb; have n0_ := Aside0.mk (below_step (by repeat (first | (with_reducible first | exact HB.out | apply below_alloc | apply pw_below_drewN | apply below_drew1) | exact HB.out)) hb); have n1_ := Aside0.mk (hbox); have n2_ := Aside0.mk ((by rw [hg]; exact (below_size (by repeat (first | (with_reducible first | exact HB.out | apply below_alloc | apply pw_below_drewN | apply below_drew1) | exact HB.out))) : w.heap.size ≤ gb106)); have n3_ := Aside0.mk ((by rw [hg]; exact (below_size (by repeat (first | (with_reducible first | exact HB.out | apply below_alloc | apply pw_below_drewN | apply below_drew1) | exact HB.out))) : w.heap.size ≤ gb106)); clear HB; have HB := n0_; have BK106 := n1_; have GW106 := n2_; have GE106 := n3_; clear n0_ n1_ n2_ n3_; clear hb hbox hg) | ((with_reducible refine gate_callee (f := 33) rfl ?_); refine goesL_ (some 14) rfl rfl Try.func33 (by kernel_rfl) rfl #[.slice A0 l0.length c0] rfl (by (try simp only [List.map_toArray, List.map_cons, List.map_nil]); first | done | rfl | (simp only [List.length_drop, List.length_take]; rfl)) ?_; (with_reducible refine (seal_Open.calls _ _ l0 t107 t108 t109 t110 t111 t112 t115 _ ?side1 ?side2 A4.out).mono ?_); (case side1 => repeat (first | exact (Kd.C_below HR0.out HB.out) | (with_reducible refine Kd.C_alloc ?_ _) | (with_reducible refine Kd.C_drewN ?_ _) | (with_reducible refine Kd.C_drew ?_))); (case side2 => exact HC0.out); rintro e w27 ⟨v113, rfl, ho0, hb⟩; refine ⟨_, rfl, ?_⟩; have n0_ := Aside0.mk (Kd.V_lower (Kd.V_mono (ok' := fun k_ => (w.heap.size ≤ k_) ∧ k_ ≠ gb106) ho0 (fun k_ hk_ => ⟨(Nat.le_trans (below_size (by repeat (first | (with_reducible first | exact HB.out | apply below_alloc | apply pw_below_drewN | apply below_drew1 | refine below_set ?_ GE106.out) | exact HB.out))) hk_), (Kd.freshB (g := gb106) (o := .cells #[.int .i64 0, .int .i64 0, .int .i64 0, .int .i64 0, .int .i64 0] 49 (0, 0)) (by (with_reducible repeat (first | refine blk_drewN ?_ _ | refine blk_drew ?_ | refine blk_alloc ?_ _)); exact BK106.out) k_ hk_)⟩)) (below_size (by repeat (first | (with_reducible first | exact HB.out | apply below_alloc | apply pw_below_drewN | apply below_drew1 | refine below_set ?_ GE106.out) | exact HB.out)))); have n1_ := Aside0.mk (blk_below (g := gb106) (o := .cells #[.int .i64 0, .int .i64 0, .int .i64 0, .int .i64 0, .int .i64 0] 49 (0, 0)) (by (with_reducible repeat (first | refine blk_drewN ?_ _ | refine blk_drew ?_ | refine blk_alloc ?_ _)); exact BK106.out) hb); have n2_ := Aside0.mk (below_step (by repeat (first | (with_reducible first | exact HB.out | apply below_alloc | apply pw_below_drewN | apply below_drew1 | refine below_set ?_ GE106.out) | exact HB.out)) hb); clear BK106; clear HB; have HO114 := n0_; have BK106 := n1_; have HB := n2_; clear n0_ n1_ n2_; (try clear hb); (try clear hb2); (try clear hk); (try clear hi); (try clear ho0)) | ((with_reducible refine gate_dst (N := 9) rfl ?_); refine box_event ?hg (N := 9) ?hd (cs := #[.int .i64 0, .int .i64 0, .int .i64 0, .int .i64 0, .int .i64 0]) (t := 49) ?hr ?_; (case hd => rfl); (case hg => rfl); (case hr => first | (go_simp; done) | (go_simp; rfl)); intro gb116 hg w28 hbox hb; have n0_ := Aside0.mk (Kd.V_below (Kd.V_elderB (by (with_reducible repeat (first | apply Kd.V_alloc | apply Kd.V_drewN | apply Kd.V_drew)); exact HO114.out) gb116 (Nat.le_of_eq hg.symm)) hb); have n1_ := Aside0.mk (blk_below (g := gb106) (o := .cells #[.int .i64 0, .int .i64 0, .int .i64 0, .int .i64 0, .int .i64 0] 49 (0, 0)) (by (with_reducible repeat (first | refine blk_drewN ?_ _ | refine blk_drew ?_ | refine blk_alloc ?_ _)); exact BK106.out) hb); have n2_ := Aside0.mk (below_step (by repeat (first | (with_reducible first | exact HB.out | apply below_alloc | apply pw_below_drewN | apply below_drew1 | refine below_set ?_ GE106.out) | exact HB.out)) hb); have n3_ := Aside0.mk (hbox); have n4_ := Aside0.mk ((by rw [hg]; exact (below_size (by repeat (first | (with_reducible first | exact HB.out | apply below_alloc | apply pw_below_drewN | apply below_drew1 | refine below_set ?_ GE106.out) | exact HB.out))) : w.heap.size ≤ gb116)); have n5_ := Aside0.mk ((by rw [hg]; exact (below_size (by repeat (first | (with_reducible first | exact HB.out | apply below_alloc | apply pw_below_drewN | apply below_drew1 | refine below_set ?_ GE106.out) | exact HB.out))) : w.heap.size ≤ gb116)); have n6_ := Aside0.mk ((by rw [hg]; exact Nat.ne_of_lt (blk_lt (g := gb106) (o := .cells #[.int .i64 0, .int .i64 0, .int .i64 0, .int .i64 0, .int .i64 0] 49 (0, 0)) (by (with_reducible repeat (first | refine blk_drewN ?_ _ | refine blk_drew ?_ | refine blk_alloc ?_ _)); exact BK106.out)) : gb106 ≠ gb116)); have n7_ := Aside0.mk ((by rw [hg]; exact Nat.ne_of_gt (blk_lt (g := gb106) (o := .cells #[.int .i64 0, .int .i64 0, .int .i64 0, .int .i64 0, .int .i64 0] 49 (0, 0)) (by (with_reducible repeat (first | refine blk_drewN ?_ _ | refine blk_drew ?_ | refine blk_alloc ?_ _)); exact BK106.out)) : gb116 ≠ gb106)); clear HO114; clear BK106; clear HB; have HO114 := n0_; have BK106 := n1_; have HB := n2_; have BK116 := n3_; have GW116 := n4_; have GE116 := n5_; have NB106_116 := n6_; have NB116_106 := n7_; clear n0_ n1_ n2_ n3_ n4_ n5_ n6_ n7_; clear hb hbox hg; have hnb29 := NB116_106.out; have hnc29 := NB106_116.out; have hcz30_0 : w28.cell? ⟨gb116, 0, none⟩ = some (.int .i64 0) := (blk_cell BK116.out 0).trans rfl; have hcz30_1 : w28.cell? ⟨gb116, 1, none⟩ = some (.int .i64 0) := (blk_cell BK116.out 1).trans rfl; have hcz30_2 : w28.cell? ⟨gb116, 2, none⟩ = some (.int .i64 0) := (blk_cell BK116.out 2).trans rfl; have hcz30_3 : w28.cell? ⟨gb116, 3, none⟩ = some (.int .i64 0) := (blk_cell BK116.out 3).trans rfl; have hcz30_4 : w28.cell? ⟨gb116, 4, none⟩ = some (.int .i64 0) := (blk_cell BK116.out 4).trans rfl; have hfz30_0 := blk_frozen BK116.out 0; have hfz30_1 := blk_frozen BK116.out 1; have hfz30_2 := blk_frozen BK116.out 2; have hfz30_3 := blk_frozen BK116.out 3; have hfz30_4 := blk_frozen BK116.out 4; have hcz31_0 : w28.cell? ⟨gb106, 0, none⟩ = some (.int .i64 0) := (blk_cell BK106.out 0).trans rfl; have hcz31_1 : w28.cell? ⟨gb106, 1, none⟩ = some (.int .i64 0) := (blk_cell BK106.out 1).trans rfl; have hcz31_2 : w28.cell? ⟨gb106, 2, none⟩ = some (.int .i64 0) := (blk_cell BK106.out 2).trans rfl; have hcz31_3 : w28.cell? ⟨gb106, 3, none⟩ = some (.int .i64 0) := (blk_cell BK106.out 3).trans rfl; have hcz31_4 : w28.cell? ⟨gb106, 4, none⟩ = some (.int .i64 0) := (blk_cell BK106.out 4).trans rfl; have hfz31_0 := blk_frozen BK106.out 0; have hfz31_1 := blk_frozen BK106.out 1; have hfz31_2 := blk_frozen BK106.out 2; have hfz31_3 := blk_frozen BK106.out 3; have hfz31_4 := blk_frozen BK106.out 4))
  refine bodyPost_ret (results_ctt rfl _ _ gb106 49 #[.int .i64 0, .int .i64 0, .int .i64 0, .int .i64 0, .int .i64 0] (0, 0) _ rfl (by (with_reducible repeat (first | refine blk_drewN ?_ _ | refine blk_drew ?_ | refine blk_alloc ?_ _)); refine blk_put (cs := #[.int .i64 0, .int .i64 0, .int .i64 0, .int .i64 0, .int .i64 0]) ?_ 4 _ rfl; (with_reducible repeat (first | refine blk_drewN ?_ _ | refine blk_drew ?_ | refine blk_alloc ?_ _)); refine blk_put (cs := #[.int .i64 0, .int .i64 0, .int .i64 0, .int .i64 0, .int .i64 0]) ?_ 3 _ rfl; (with_reducible repeat (first | refine blk_drewN ?_ _ | refine blk_drew ?_ | refine blk_alloc ?_ _)); refine blk_put (cs := #[.int .i64 0, .int .i64 0, .int .i64 0, .int .i64 0, .int .i64 0]) ?_ 2 _ rfl; (with_reducible repeat (first | refine blk_drewN ?_ _ | refine blk_drew ?_ | refine blk_alloc ?_ _)); refine blk_put (cs := #[.int .i64 0, .int .i64 0, .int .i64 0, .int .i64 0, .int .i64 0]) ?_ 1 _ rfl; (with_reducible repeat (first | refine blk_drewN ?_ _ | refine blk_drew ?_ | refine blk_alloc ?_ _)); refine blk_put (cs := #[.int .i64 0, .int .i64 0, .int .i64 0, .int .i64 0, .int .i64 0]) ?_ 0 _ rfl; (with_reducible repeat (first | refine blk_drewN ?_ _ | refine blk_drew ?_ | refine blk_alloc ?_ _)); refine blk_far ?_ NB106_116.out _; (with_reducible repeat (first | refine blk_drewN ?_ _ | refine blk_drew ?_ | refine blk_alloc ?_ _)); refine blk_far ?_ NB106_116.out _; (with_reducible repeat (first | refine blk_drewN ?_ _ | refine blk_drew ?_ | refine blk_alloc ?_ _)); refine blk_far ?_ NB106_116.out _; (with_reducible repeat (first | refine blk_drewN ?_ _ | refine blk_drew ?_ | refine blk_alloc ?_ _)); refine blk_far ?_ NB106_116.out _; (with_reducible repeat (first | refine blk_drewN ?_ _ | refine blk_drew ?_ | refine blk_alloc ?_ _)); refine blk_far ?_ NB106_116.out _; (with_reducible repeat (first | refine blk_drewN ?_ _ | refine blk_drew ?_ | refine blk_alloc ?_ _)); exact BK106.out) Try.underlying49 rfl (by kernel_rfl)) rfl ?_
  exact ⟨_, by first | rfl | (simp [errW_none, errW_some] <;> rfl) | (simp [*, errW_none, errW_some] <;> rfl), Kd.V_nil _ _ _ _ _, by repeat (first | (with_reducible first | exact HB.out | apply below_alloc | apply pw_below_drewN | apply below_drew1 | refine below_set ?_ GE106.out | refine below_set ?_ GE116.out) | exact HB.out)⟩

-- NOT PRINTED: function 25 (super_Read_1)

-- NOT PRINTED: function 11 (super_Read)

-- NOT PRINTED: function 13 (super_Newer)

/-! ### super_Areas: function 15 -/
def super_Areas.f (a0 : Int) : Option (Int × Int) := some (wrap64 (Int.tdiv (wrap64 ((wrap64 (a0 + 118)) - 1)) 118), wrap64 (2 + (wrap64 (2 * (wrap64 (Int.tdiv (wrap64 ((wrap64 (a0 + 118)) - 1)) 118))))))
set_option maxHeartbeats 8000000 in
set_option maxRecDepth 100000 in
theorem super_Areas.calls (a0 : Int) (r1 : Int) (r2 : Int) (w : World) (h : super_Areas.f a0 = some (r1, r2)) :
  Calls Try.prog 15 #[.int .i64 a0] w fun e w' => e = .returned (.tuple #[.int .i64 r1, .int .i64 r2]) ∧ Drawn0 w w' := by
 have H : (some (wrap64 (Int.tdiv (wrap64 ((wrap64 (a0 + 118)) - 1)) 118), wrap64 (2 + (wrap64 (2 * (wrap64 (Int.tdiv (wrap64 ((wrap64 (a0 + 118)) - 1)) 118))))))) = some (r1, r2) := h
 clear h
 simp only [Option.some.injEq, Prod.mk.injEq] at H
 obtain ⟨rfl, rfl⟩ := H
 go_enter Try.func15, Try.ntmps15
 go_wp2
 go_ret2
 exact ⟨by first | rfl | (simp; done) | (simp [*]; done) | (simp; generalize ByteArray.toList _ = l_; cases l_ <;> rfl), by repeat (first | exact Drawn0.refl _ | apply Drawn0.step)⟩

/-! ### GIVEN cambiumlaw07_shown: function 10 -/
theorem check_none (s : Int) : seal_Check.f [] 1 s = some (0, 0, 0, 0, 0, [], 3) := by
 unfold seal_Check.f
 rw [show seal_Open.f [] = some (0, 0, 0, 0, 0, [], 3) from by kernel_rfl]
 rfl
theorem superZ_one (v : Value) (hv : v ∈ (#[.int .i64 0, .int .i64 0, .int .i64 0, .string { data := #[] }, .bool false, .int .i64 0, .int .i64 0, .string { data := #[] }, .bool false, .int .i64 0, .int .i64 0, .string { data := #[] }, .bool false, .int .i64 0, .int .i64 0, .string { data := #[] }, .bool false, .int .i64 0, .int .i64 0, .string { data := #[] }, .bool false, .int .i64 0, .int .i64 0, .string { data := #[] }, .bool false, .int .i64 0, .int .i64 0, .string { data := #[] }, .bool false, .int .i64 0, .int .i64 0, .string { data := #[] }, .bool false, .int .i64 0, .int .i64 0] : Array Value).toList) : v.oneCell' = true := by
 have h : (#[.int .i64 0, .int .i64 0, .int .i64 0, .string { data := #[] }, .bool false, .int .i64 0, .int .i64 0, .string { data := #[] }, .bool false, .int .i64 0, .int .i64 0, .string { data := #[] }, .bool false, .int .i64 0, .int .i64 0, .string { data := #[] }, .bool false, .int .i64 0, .int .i64 0, .string { data := #[] }, .bool false, .int .i64 0, .int .i64 0, .string { data := #[] }, .bool false, .int .i64 0, .int .i64 0, .string { data := #[] }, .bool false, .int .i64 0, .int .i64 0, .string { data := #[] }, .bool false, .int .i64 0, .int .i64 0] : Array Value).toList.all Value.oneCell' = true := by kernel_rfl
 exact List.all_eq_true.1 h v hv
set_option maxHeartbeats 2000000 in
theorem super_Read_nil (s : Int) (w : World) :
  Calls Try.prog 11 #[.slice none 0 0, .int .i64 s] w fun e w' => e = .returned (.tuple #[.agg #[.int .i64 0, .int .i64 0, .int .i64 0, .string { data := #[] }, .bool false, .int .i64 0, .int .i64 0, .string { data := #[] }, .bool false, .int .i64 0, .int .i64 0, .string { data := #[] }, .bool false, .int .i64 0, .int .i64 0, .string { data := #[] }, .bool false, .int .i64 0, .int .i64 0, .string { data := #[] }, .bool false, .int .i64 0, .int .i64 0, .string { data := #[] }, .bool false, .int .i64 0, .int .i64 0, .string { data := #[] }, .bool false, .int .i64 0, .int .i64 0, .string { data := #[] }, .bool false, .int .i64 0, .int .i64 0], .int .i64 3]) ∧ Below w.heap.size w w' := by
 have HK := Aside0.mk (check_none s)
 have HB0 := Aside0.mk ((Below.refl w.heap.size w).alloc (Nat.le_refl _) (.cells #[.int .i64 0, .int .i64 0, .int .i64 0, .string { data := #[] }, .bool false, .int .i64 0, .int .i64 0, .string { data := #[] }, .bool false, .int .i64 0, .int .i64 0, .string { data := #[] }, .bool false, .int .i64 0, .int .i64 0, .string { data := #[] }, .bool false, .int .i64 0, .int .i64 0, .string { data := #[] }, .bool false, .int .i64 0, .int .i64 0, .string { data := #[] }, .bool false, .int .i64 0, .int .i64 0, .string { data := #[] }, .bool false, .int .i64 0, .int .i64 0, .string { data := #[] }, .bool false, .int .i64 0, .int .i64 0] 28))
 have HX0 := Aside0.mk (heap_alloc_new w (.cells #[.int .i64 0, .int .i64 0, .int .i64 0, .string { data := #[] }, .bool false, .int .i64 0, .int .i64 0, .string { data := #[] }, .bool false, .int .i64 0, .int .i64 0, .string { data := #[] }, .bool false, .int .i64 0, .int .i64 0, .string { data := #[] }, .bool false, .int .i64 0, .int .i64 0, .string { data := #[] }, .bool false, .int .i64 0, .int .i64 0, .string { data := #[] }, .bool false, .int .i64 0, .int .i64 0, .string { data := #[] }, .bool false, .int .i64 0, .int .i64 0, .string { data := #[] }, .bool false, .int .i64 0, .int .i64 0] 28))
 have HON := Aside0.mk superZ_one
 go_enter Try.func11, Try.ntmps11
 go_wp2_with fail
 refine (seal_Check.calls none 0 [] 1 s 0 0 0 0 0 [] 3 _ (Kd.C_nil _ _) (Nat.le_refl _) HK.out).mono ?_
 rintro e w1 ⟨v1, rfl, ho, hb⟩
 obtain ⟨A1, c1, he1⟩ := Kd.V_slice ho
 subst he1
 have hb1 := below_step HB0.out hb
 have HB1 := Aside0.mk (below_alloc (below_alloc hb1 (.cells #[.int .i64 0, .int .i64 0, .int .i64 0, .int .i64 0, .int .i64 0] 49)) (.cells #[.slice A1 0 c1] 22))
 have hx1 := blk_below HX0.out hb
 have HX1 := Aside0.mk (blk_alloc (blk_alloc hx1 (.cells #[.int .i64 0, .int .i64 0, .int .i64 0, .int .i64 0, .int .i64 0] 49)) (.cells #[.slice A1 0 c1] 22))
 clear hb1 hb hx1 ho HB0 HX0
 go_wp2_with (refine Own.wpList_store_row rfl 28 _ _ rfl w.heap.size rfl #[.int .i64 0, .int .i64 0, .int .i64 0, .string { data := #[] }, .bool false, .int .i64 0, .int .i64 0, .string { data := #[] }, .bool false, .int .i64 0, .int .i64 0, .string { data := #[] }, .bool false, .int .i64 0, .int .i64 0, .string { data := #[] }, .bool false, .int .i64 0, .int .i64 0, .string { data := #[] }, .bool false, .int .i64 0, .int .i64 0, .string { data := #[] }, .bool false, .int .i64 0, .int .i64 0, .string { data := #[] }, .bool false, .int .i64 0, .int .i64 0, .string { data := #[] }, .bool false, .int .i64 0, .int .i64 0] rfl 28 _ HX1.out (by kernel_rfl) rfl HON.out ?_)
 exact bodyPost_ret (results_ct rfl _ _ w.heap.size 28 #[.int .i64 0, .int .i64 0, .int .i64 0, .string { data := #[] }, .bool false, .int .i64 0, .int .i64 0, .string { data := #[] }, .bool false, .int .i64 0, .int .i64 0, .string { data := #[] }, .bool false, .int .i64 0, .int .i64 0, .string { data := #[] }, .bool false, .int .i64 0, .int .i64 0, .string { data := #[] }, .bool false, .int .i64 0, .int .i64 0, .string { data := #[] }, .bool false, .int .i64 0, .int .i64 0, .string { data := #[] }, .bool false, .int .i64 0, .int .i64 0, .string { data := #[] }, .bool false, .int .i64 0, .int .i64 0] (0, 0) _ rfl (setRow_heap _ _ _ _ _ _ HX1.out) Try.underlying28 rfl (by kernel_rfl)) rfl ⟨rfl, below_setRow HB1.out (Nat.le_refl _) _⟩
set_option maxHeartbeats 2000000 in
theorem super_Newer_nil (w : World) :
  Calls Try.prog 13 #[.slice none 0 0, .slice none 0 0] w fun e w' => e = .returned (.tuple #[.agg #[.int .i64 0, .int .i64 0, .int .i64 0, .string { data := #[] }, .bool false, .int .i64 0, .int .i64 0, .string { data := #[] }, .bool false, .int .i64 0, .int .i64 0, .string { data := #[] }, .bool false, .int .i64 0, .int .i64 0, .string { data := #[] }, .bool false, .int .i64 0, .int .i64 0, .string { data := #[] }, .bool false, .int .i64 0, .int .i64 0, .string { data := #[] }, .bool false, .int .i64 0, .int .i64 0, .string { data := #[] }, .bool false, .int .i64 0, .int .i64 0, .string { data := #[] }, .bool false, .int .i64 0, .int .i64 0], .int .i64 0, .int .i64 27]) ∧ Below w.heap.size w w' := by
 have HB0 := Aside0.mk ((Below.refl w.heap.size w).alloc (Nat.le_refl _) (.cells #[.int .i64 0, .int .i64 0, .int .i64 0, .string { data := #[] }, .bool false, .int .i64 0, .int .i64 0, .string { data := #[] }, .bool false, .int .i64 0, .int .i64 0, .string { data := #[] }, .bool false, .int .i64 0, .int .i64 0, .string { data := #[] }, .bool false, .int .i64 0, .int .i64 0, .string { data := #[] }, .bool false, .int .i64 0, .int .i64 0, .string { data := #[] }, .bool false, .int .i64 0, .int .i64 0, .string { data := #[] }, .bool false, .int .i64 0, .int .i64 0, .string { data := #[] }, .bool false, .int .i64 0, .int .i64 0] 28))
 have HX0 := Aside0.mk (heap_alloc_new w (.cells #[.int .i64 0, .int .i64 0, .int .i64 0, .string { data := #[] }, .bool false, .int .i64 0, .int .i64 0, .string { data := #[] }, .bool false, .int .i64 0, .int .i64 0, .string { data := #[] }, .bool false, .int .i64 0, .int .i64 0, .string { data := #[] }, .bool false, .int .i64 0, .int .i64 0, .string { data := #[] }, .bool false, .int .i64 0, .int .i64 0, .string { data := #[] }, .bool false, .int .i64 0, .int .i64 0, .string { data := #[] }, .bool false, .int .i64 0, .int .i64 0, .string { data := #[] }, .bool false, .int .i64 0, .int .i64 0] 28))
 have HON := Aside0.mk superZ_one
 go_enter Try.func13, Try.ntmps13
 go_wp2_with fail
 refine (super_Read_nil 0 _).mono ?_
 rintro e w1 ⟨rfl, hb⟩
 have HB1 := Aside0.mk (below_alloc (below_step HB0.out hb) (.cells #[.int .i64 0, .int .i64 0, .int .i64 0, .string { data := #[] }, .bool false, .int .i64 0, .int .i64 0, .string { data := #[] }, .bool false, .int .i64 0, .int .i64 0, .string { data := #[] }, .bool false, .int .i64 0, .int .i64 0, .string { data := #[] }, .bool false, .int .i64 0, .int .i64 0, .string { data := #[] }, .bool false, .int .i64 0, .int .i64 0, .string { data := #[] }, .bool false, .int .i64 0, .int .i64 0, .string { data := #[] }, .bool false, .int .i64 0, .int .i64 0, .string { data := #[] }, .bool false, .int .i64 0, .int .i64 0] 28))
 have HX1 := Aside0.mk (blk_alloc (blk_below HX0.out hb) (.cells #[.int .i64 0, .int .i64 0, .int .i64 0, .string { data := #[] }, .bool false, .int .i64 0, .int .i64 0, .string { data := #[] }, .bool false, .int .i64 0, .int .i64 0, .string { data := #[] }, .bool false, .int .i64 0, .int .i64 0, .string { data := #[] }, .bool false, .int .i64 0, .int .i64 0, .string { data := #[] }, .bool false, .int .i64 0, .int .i64 0, .string { data := #[] }, .bool false, .int .i64 0, .int .i64 0, .string { data := #[] }, .bool false, .int .i64 0, .int .i64 0, .string { data := #[] }, .bool false, .int .i64 0, .int .i64 0] 28))
 clear hb HB0 HX0
 go_wp2_with (refine Own.wpList_store_row rfl 28 _ _ rfl w1.heap.size rfl #[.int .i64 0, .int .i64 0, .int .i64 0, .string { data := #[] }, .bool false, .int .i64 0, .int .i64 0, .string { data := #[] }, .bool false, .int .i64 0, .int .i64 0, .string { data := #[] }, .bool false, .int .i64 0, .int .i64 0, .string { data := #[] }, .bool false, .int .i64 0, .int .i64 0, .string { data := #[] }, .bool false, .int .i64 0, .int .i64 0, .string { data := #[] }, .bool false, .int .i64 0, .int .i64 0, .string { data := #[] }, .bool false, .int .i64 0, .int .i64 0, .string { data := #[] }, .bool false, .int .i64 0, .int .i64 0] rfl 28 _ (heap_alloc_new _ _) (by kernel_rfl) rfl HON.out ?_; rw [Own.setRow_alloc_at _ _ _ _ _ rfl])
 refine (super_Read_nil 1 _).mono ?_
 rintro e w2 ⟨rfl, hb⟩
 have HB2 := Aside0.mk (below_alloc (below_step HB1.out hb) (.cells #[.int .i64 0, .int .i64 0, .int .i64 0, .string { data := #[] }, .bool false, .int .i64 0, .int .i64 0, .string { data := #[] }, .bool false, .int .i64 0, .int .i64 0, .string { data := #[] }, .bool false, .int .i64 0, .int .i64 0, .string { data := #[] }, .bool false, .int .i64 0, .int .i64 0, .string { data := #[] }, .bool false, .int .i64 0, .int .i64 0, .string { data := #[] }, .bool false, .int .i64 0, .int .i64 0, .string { data := #[] }, .bool false, .int .i64 0, .int .i64 0, .string { data := #[] }, .bool false, .int .i64 0, .int .i64 0] 28))
 have HX2 := Aside0.mk (blk_alloc (blk_below HX1.out hb) (.cells #[.int .i64 0, .int .i64 0, .int .i64 0, .string { data := #[] }, .bool false, .int .i64 0, .int .i64 0, .string { data := #[] }, .bool false, .int .i64 0, .int .i64 0, .string { data := #[] }, .bool false, .int .i64 0, .int .i64 0, .string { data := #[] }, .bool false, .int .i64 0, .int .i64 0, .string { data := #[] }, .bool false, .int .i64 0, .int .i64 0, .string { data := #[] }, .bool false, .int .i64 0, .int .i64 0, .string { data := #[] }, .bool false, .int .i64 0, .int .i64 0, .string { data := #[] }, .bool false, .int .i64 0, .int .i64 0] 28))
 clear hb HB1 HX1
 go_wp2_with (first | (refine Own.wpList_store_row rfl 28 _ _ rfl w2.heap.size rfl #[.int .i64 0, .int .i64 0, .int .i64 0, .string { data := #[] }, .bool false, .int .i64 0, .int .i64 0, .string { data := #[] }, .bool false, .int .i64 0, .int .i64 0, .string { data := #[] }, .bool false, .int .i64 0, .int .i64 0, .string { data := #[] }, .bool false, .int .i64 0, .int .i64 0, .string { data := #[] }, .bool false, .int .i64 0, .int .i64 0, .string { data := #[] }, .bool false, .int .i64 0, .int .i64 0, .string { data := #[] }, .bool false, .int .i64 0, .int .i64 0, .string { data := #[] }, .bool false, .int .i64 0, .int .i64 0] rfl 28 _ (heap_alloc_new _ _) (by kernel_rfl) rfl HON.out ?_; rw [Own.setRow_alloc_at _ _ _ _ _ rfl]) | (refine Own.wpList_store_row rfl 28 _ _ rfl w.heap.size rfl #[.int .i64 0, .int .i64 0, .int .i64 0, .string { data := #[] }, .bool false, .int .i64 0, .int .i64 0, .string { data := #[] }, .bool false, .int .i64 0, .int .i64 0, .string { data := #[] }, .bool false, .int .i64 0, .int .i64 0, .string { data := #[] }, .bool false, .int .i64 0, .int .i64 0, .string { data := #[] }, .bool false, .int .i64 0, .int .i64 0, .string { data := #[] }, .bool false, .int .i64 0, .int .i64 0, .string { data := #[] }, .bool false, .int .i64 0, .int .i64 0, .string { data := #[] }, .bool false, .int .i64 0, .int .i64 0] rfl 28 _ HX2.out (by kernel_rfl) rfl HON.out ?_))
 exact bodyPost_ret (results_ctt rfl _ _ w.heap.size 28 #[.int .i64 0, .int .i64 0, .int .i64 0, .string { data := #[] }, .bool false, .int .i64 0, .int .i64 0, .string { data := #[] }, .bool false, .int .i64 0, .int .i64 0, .string { data := #[] }, .bool false, .int .i64 0, .int .i64 0, .string { data := #[] }, .bool false, .int .i64 0, .int .i64 0, .string { data := #[] }, .bool false, .int .i64 0, .int .i64 0, .string { data := #[] }, .bool false, .int .i64 0, .int .i64 0, .string { data := #[] }, .bool false, .int .i64 0, .int .i64 0, .string { data := #[] }, .bool false, .int .i64 0, .int .i64 0] (0, 0) _ rfl (setRow_heap _ _ _ _ _ _ HX2.out) Try.underlying28 rfl (by kernel_rfl)) rfl ⟨rfl, below_setRow HB2.out (Nat.le_refl _) _⟩
def cambiumlaw07_shown.f : Option Bool := some true
set_option maxHeartbeats 2000000 in
theorem cambiumlaw07_shown.calls (r : Bool) (w : World) (h : cambiumlaw07_shown.f = some r) :
  Calls Try.prog 10 #[] w fun e w' => e = .returned (.bool r) ∧ Below w.heap.size w w' := by
 obtain rfl : true = r := by injection h
 clear h
 go_enter Try.func10, Try.ntmps10
 go_wp2_with fail
 refine (super_Areas.calls 32 1 4 _ (by kernel_rfl)).mono ?_
 rintro e w1 ⟨rfl, hd1⟩
 go_wp2_with fail
 refine (super_Areas.calls 512 5 12 _ (by kernel_rfl)).mono ?_
 rintro e w2 ⟨rfl, hd2⟩
 go_wp2_with fail
 refine (super_Newer_nil _).mono ?_
 rintro e w3 ⟨rfl, hb⟩
 have HON := Aside0.mk superZ_one
 go_wp2_with (refine Own.wpList_store_row rfl 28 _ _ rfl w3.heap.size rfl #[.int .i64 0, .int .i64 0, .int .i64 0, .string { data := #[] }, .bool false, .int .i64 0, .int .i64 0, .string { data := #[] }, .bool false, .int .i64 0, .int .i64 0, .string { data := #[] }, .bool false, .int .i64 0, .int .i64 0, .string { data := #[] }, .bool false, .int .i64 0, .int .i64 0, .string { data := #[] }, .bool false, .int .i64 0, .int .i64 0, .string { data := #[] }, .bool false, .int .i64 0, .int .i64 0, .string { data := #[] }, .bool false, .int .i64 0, .int .i64 0, .string { data := #[] }, .bool false, .int .i64 0, .int .i64 0] rfl 28 _ (heap_alloc_new _ _) (by kernel_rfl) rfl HON.out ?_; rw [Own.setRow_alloc_at _ _ _ _ _ rfl])
 go_ret
 exact ⟨rfl, below_alloc (below_step (below_step hd1.below hd2.below) hb) _⟩
/-! ### end of GIVEN -/
/-! ### GIVEN num_Put: function 29 -/
/-- Byte i of eight, the greatest first. -/
def eighth (x : Int) (i : Nat) : Int := IntKind.u64.wrap x / 2 ^ (8 * (7 - i)) % 256
def row8 (x : Int) (k : Nat) : Array Value := ((List.range 8).map fun i => if i < k then Value.int .u8 (eighth x i) else .int .u8 0).toArray
theorem row8_get (x : Int) (k : Nat) (h : k < 8) : (row8 x k)[k]? = some (.int .u8 0) := by simp [row8, h]
theorem row8_set (x : Int) (k : Nat) (h : k < 8) : (row8 x k).setIfInBounds k (.int .u8 (eighth x k)) = row8 x (k + 1) := by
 apply Array.ext
 ·simp [row8]
 ·intro i h1 h2
  simp [row8, List.getElem_set]
  by_cases e : k = i
  ·subst e; simp
  ·have : i < k + 1 ↔ i < k := by omega
   simp [e, this]
/-- The last n of the eight bytes. -/
def eights (x : Int) (n : Nat) : List Int := (List.range n).map fun i => eighth x (8 - n + i)
theorem eights_length (x : Int) (n : Nat) : (eights x n).length = n := by simp [eights]
theorem row8_reads (W : World) (g : Nat) (x : Int) (n : Nat) (t : TypeId) (h1 : 1 ≤ n) (h8 : n ≤ 8) (hg : W.heap[g]? = some (.cells (row8 x 8) t (0, 0))) : Kd.C (Kd.int .u8) W (some ⟨g, 8 - n, none⟩) (eights x n).length (eights x n) := by
 refine ⟨rfl, by rw [eights_length]; omega, fun _ => ⟨_, rfl, fun j p hj => ⟨[.int .u8 p], rfl, rfl, fun i u hu => ?_⟩⟩⟩
 have hi : i = 0 := by
  rcases i with _ | i
  ·rfl
  ·simp at hu
 subst hi
 simp at hu
 subst hu
 obtain ⟨hlt, hp⟩ := List.getElem?_eq_some_iff.1 hj
 rw [eights_length] at hlt
 have ha : (⟨g, 8 - n, none⟩ : Addr).add (j * (Kd.int IntKind.u8).sz + 0) = ⟨g, 8 - n + j, none⟩ := by
  show (⟨g, 8 - n, none⟩ : Addr).add (j * 1 + 0) = _
  unfold Addr.add
  split
  ·have : j = 0 := by omega
   subst this; simp
  ·simp
 rw [ha, cell_of_row _ _ _ _ _ _ hg]
 have : 8 - n + j < 8 := by omega
 simp [row8, this]
 rw [← hp]
 simp [eights]
set_option maxHeartbeats 400000 in
def num_Put.f (l0 : List Int) (x n : Int) : Option (List Int) := num_join.f l0 (if n < 1 ∨ 8 < n then [] else eights x n.toNat)
theorem num_Put.calls (A0 : Option Addr) (c0 : Nat) (l0 : List Int) (x n : Int) (r : List Int) (w : World) (hr0 : Kd.C (Kd.int .u8) w A0 l0.length l0) (hc0 : l0.length ≤ c0) (h : num_Put.f l0 x n = some r) :
  Calls Try.prog 29 #[.slice A0 l0.length c0, .int .i64 x, .int .i64 n] w fun e w' => ∃ v0_ : Value, e = .returned (v0_) ∧ Kd.R (Kd.int .u8) 5 w' w.heap.size (fun _ => True) v0_ r ∧ Below w.heap.size w w' := by
 have HR0 := Aside0.mk hr0
 have HC0 := Aside0.mk hc0
 unfold num_Put.f at h
 by_cases hbad : n < 1 ∨ 8 < n
 ·rw [if_pos hbad] at h
  have H := Aside0.mk h
  clear hr0 hc0 h
  rcases hbad with hbad | hbad
  all_goals
   go_enter Try.func29, Try.ntmps29
   go_wp2_with (go_at_call 34; refine (num_join.calls _ _ l0 none 0 [] r _ HR0.out HC0.out (Kd.C_nil _ _) (Nat.le_refl _) H.out).mono ?_; rintro e w1 ⟨v1, rfl, ho, hb⟩; have HO := Aside0.mk ho; have HB1 := Aside0.mk hb; clear ho hb)
   go_ret
   exact ⟨_, rfl, HO.out, HB1.out⟩
 ·rw [if_neg hbad] at h
  have H := Aside0.mk h
  clear hr0 hc0 h
  have h1 : 1 ≤ n := by omega
  have h8 : n ≤ 8 := by omega
  clear hbad
  go_enter Try.func29, Try.ntmps29
  go_wp2
  go_loopw [17] (fun i wr => ∃ k : Nat, k ≤ 8 ∧ i = .int .i64 k ∧ wr = w.alloc (.cells (row8 x k) 68)) (fun i _ => 8 - (intOf i).toNat)
  case atStart => exact ⟨0, by omega, rfl, rfl⟩
  case round =>
   obtain ⟨k, hk, rfl, rfl⟩ := hrel
   by_cases hlt : k < 8
   ·have hcell := row8_get x k hlt
    go_wp2
    go_roundw
    case rel => exact ⟨k + 1, by omega, by go_num, by rw [← row8_set x k hlt]; rfl⟩
    case measure => simp [intOf]; omega
   ·obtain rfl : k = 8 := by omega
    clear hk hlt
    obtain ⟨m, rfl⟩ : ∃ m : Nat, n = m := ⟨n.toNat, by omega⟩
    have hcut0 := fun W => Own.run_array_from (P := Try.prog) 68 5 8 Try.underlying68 (by kernel_rfl) w.heap.size .i64 (8 - (m : Int)) (8 - m) (by omega) (by omega) W
    rw [show 8 - (8 - m) = m from by omega] at hcut0
    have hcut : ∀ W, (Instr.sliceAt 68 (.pointer (some ⟨w.heap.size, 0, none⟩)) (some (.int .i64 (8 - (m : Int)))) none none).run Try.prog W = .ok (.slice (some ⟨w.heap.size, 8 - m, none⟩) (eights x m).length m) W := by rw [eights_length]; exact hcut0
    clear hcut0
    have HX := Aside0.mk (row8_reads (w.alloc (.cells (row8 x 8) 68)) w.heap.size x m 68 (by omega) (by omega) (heap_alloc_new w _))
    have HB := Aside0.mk ((Below.refl w.heap.size w).alloc (Nat.le_refl _) (.cells (row8 x 8) 68))
    go_wp2_with (go_at_call 34; refine (num_join.calls _ _ l0 _ _ (eights x m) r _ (Kd.C_below HR0.out HB.out) HC0.out HX.out (by rw [eights_length]; exact Nat.le_refl _) H.out).mono ?_; rintro e w1 ⟨v1, rfl, ho, hb⟩; have HO := Aside0.mk ho; have HB1 := Aside0.mk hb; clear ho hb)
    go_ret
    exact ⟨_, rfl, Kd.R_lower HO.out HB.out.size, below_step HB.out HB1.out⟩
/-! ### end of GIVEN -/
/-! ### GIVEN seal_Seal: function 30 -/
theorem put_some (l : List Int) (x : Int) (n : Nat) (h1 : 1 ≤ n) (h8 : n ≤ 8) (hl : l.length ≤ 1000) : num_Put.f l x n = some (l ++ eights x n) := by
 unfold num_Put.f num_join.f
 have hb : ¬ ((n : Int) < 1 ∨ 8 < (n : Int)) := by omega
 simp only [if_neg hb, Int.toNat_natCast]
 rw [if_pos (by rw [eights_length]; omega)]
/-- The block behind its sum: header, noughts, body, noughts. -/
def sealHead (a0_0 a0_1 a0_2 a0_3 a0_4 : Int) : List Int := eights a0_0 1 ++ eights a0_3 1 ++ eights a0_1 2 ++ eights a0_2 2 ++ eights a0_4 5
def sealRow (a0_0 a0_1 a0_2 a0_3 a0_4 : Int) (l1 : List Int) : List Int := sealHead a0_0 a0_1 a0_2 a0_3 a0_4 ++ (List.replicate 5 0 ++ (l1 ++ List.replicate (236 - l1.length) 0))
def seal_Seal.f (a0_0 a0_1 a0_2 a0_3 a0_4 : Int) (l1 : List Int) : Option (List Int × Int) :=
 if sealMay a0_0 a0_1 a0_2 a0_3 a0_4 = false then some ([], 1) else if (l1.length : Int) > 236 then some ([], 7) else
  (sum_Sum.f (sealRow a0_0 a0_1 a0_2 a0_3 a0_4 l1)).bind fun s => some (eights (wrap64 s) 4 ++ sealRow a0_0 a0_1 a0_2 a0_3 a0_4 l1, 0)
def zeroL : List Value := List.replicate 256 (.int .u8 0)
theorem C_src {w : World} {A : Option Addr} {xs : List Int} (h : Kd.C (Kd.int .u8) w A xs.length xs) (hp : 0 < (nums .u8 xs).length) : ∃ ad, A = some ad ∧ ∀ j v, (nums .u8 xs)[j]? = some v → w.cell? (ad.add j) = some v := by
 obtain ⟨_, _, hc⟩ := h
 obtain ⟨ad, rfl, hg⟩ := hc (by simpa [nums] using hp)
 refine ⟨ad, rfl, fun j v hj => ?_⟩
 simp only [nums, List.getElem?_map, Option.map_eq_some_iff] at hj
 obtain ⟨p, hp2, rfl⟩ := hj
 obtain ⟨cs, h1, h2, h3⟩ := hg j p hp2
 have h4 : cs = [.int .u8 p] := h2
 subst h4
 have := h3 0 _ rfl
 simpa [Kd.int, Kd.scalar] using this
theorem blk_C {w : World} {g t : Nat} {cur : List Value} (hg : w.heap[g]? = some (.cells cur.toArray t (0, 0))) (off : Nat) (xs : List Int) (h : ∀ j p, xs[j]? = some p → cur[off + j]? = some (.int .u8 p)) (hl : xs.length ≤ 9223372036854775807) : Kd.C (Kd.int .u8) w (some ⟨g, off, none⟩) xs.length xs := by
 refine ⟨rfl, hl, fun _ => ⟨_, rfl, fun j p hj => ⟨[.int .u8 p], rfl, rfl, fun i u hu => ?_⟩⟩⟩
 have hi : i = 0 := by
  rcases i with _ | i
  ·rfl
  ·simp at hu
 subst hi
 simp at hu
 subst hu
 have ha : (⟨g, off, none⟩ : Addr).add (j * (Kd.int IntKind.u8).sz + 0) = ⟨g, off + j, none⟩ := by
  show (⟨g, off, none⟩ : Addr).add (j * 1 + 0) = _
  unfold Addr.add
  split
  ·have : j = 0 := by omega
   subst this; simp
  ·simp
 rw [ha, cell_of_row _ _ _ _ _ _ hg]
 simpa using h j p hj
theorem nums_one (xs : List Int) : ∀ v ∈ nums .u8 xs, v.oneCell' = true := by
 intro v hv
 simp only [nums, List.mem_map] at hv
 obtain ⟨x, _, rfl⟩ := hv
 rfl
theorem nums_zero (n : Nat) : nums .u8 (List.replicate n 0) = List.replicate n (.int .u8 0) := by unfold nums; rw [List.map_replicate]
theorem zeroL_is : zeroL = List.replicate 256 (.int .u8 0) := rfl
theorem seal_two (E l : List Int) (hE : E.length = 11) (hl : l.length ≤ 236) :
  splice (splice zeroL 4 (nums .u8 E)) 20 (nums .u8 l) = nums .u8 (List.replicate 4 0 ++ (E ++ (List.replicate 5 0 ++ (l ++ List.replicate (236 - l.length) 0)))) := by
 simp only [nums_append, nums_zero, zeroL_is, splice, nums_length, hE]
 generalize hv : Value.int .u8 0 = v
 have e1 : (List.replicate 256 v).take 4 = List.replicate 4 v := by rw [List.take_replicate, Nat.min_eq_left (by omega)]
 have e2 : (List.replicate 256 v).drop (4 + 11) = List.replicate 5 v ++ List.replicate 236 v := by rw [List.drop_replicate, List.replicate_append_replicate]
 rw [e1, e2]
 have e3 : (List.replicate 4 v ++ (nums .u8 E ++ (List.replicate 5 v ++ List.replicate 236 v))) = (List.replicate 4 v ++ (nums .u8 E ++ List.replicate 5 v)) ++ List.replicate 236 v := by simp only [List.append_assoc]
 have h20 : (List.replicate 4 v ++ (nums .u8 E ++ List.replicate 5 v)).length = 20 := by simp only [List.length_append, List.length_replicate, nums_length, hE]
 rw [e3, List.take_append_of_le_length (by omega), List.take_of_length_le (by omega), List.drop_append, List.drop_of_length_le (by omega), h20, List.nil_append, List.drop_replicate, show 236 - (20 + l.length - 20) = 236 - l.length from by omega]
 simp only [List.append_assoc]
theorem nums_at (Z R : List Int) (j : Nat) (p : Int) (h : R[j]? = some p) : (nums .u8 (Z ++ R))[Z.length + j]? = some (.int .u8 p) := by
 rw [nums_append, List.getElem?_append_right (by rw [nums_length]; omega), nums_length, Nat.add_sub_cancel_left]
 simp [nums, h]
theorem sealRow_len (a0_0 a0_1 a0_2 a0_3 a0_4 : Int) (l1 : List Int) (h : l1.length ≤ 236) : (sealRow a0_0 a0_1 a0_2 a0_3 a0_4 l1).length = 252 := by
 unfold sealRow sealHead
 simp only [List.length_append, List.length_replicate, eights_length]
 omega
theorem copied {w : World} {g t : Nat} {a b : List Value} (h : w.heap[g]? = some (.cells a.toArray t (0, 0))) (e : a = b) : w.heap[g]? = some (.cells b.toArray t (0, 0)) := by rw [← e]; exact h
theorem seal_three (E R : List Int) (hE : E.length = 4) : splice (nums .u8 (List.replicate 4 0 ++ R)) 0 (nums .u8 E) = nums .u8 (E ++ R) := by
 simp only [nums_append, splice, nums_length, hE, nums_zero]
 generalize hv : Value.int .u8 0 = v
 rw [List.take_zero, List.nil_append, Nat.zero_add, List.drop_append, List.drop_of_length_le (by rw [List.length_replicate]; omega), List.length_replicate, List.nil_append, Nat.sub_self, List.drop_zero]
set_option maxHeartbeats 2000000 in
theorem seal_Seal.calls (a0_0 : Int) (a0_1 : Int) (a0_2 : Int) (a0_3 : Int) (a0_4 : Int) (A1 : Option Addr) (c1 : Nat) (l1 : List Int) (r1 : List Int) (r2 : Int) (w : World) (hr1 : Kd.C (Kd.int .u8) w A1 l1.length l1) (hc1 : l1.length ≤ c1) (h : seal_Seal.f a0_0 a0_1 a0_2 a0_3 a0_4 l1 = some (r1, r2)) :
  Calls Try.prog 30 #[.agg #[.int .i64 a0_0, .int .i64 a0_1, .int .i64 a0_2, .int .i64 a0_3, .int .i64 a0_4], .slice A1 l1.length c1] w fun e w' => ∃ v0_ : Value, e = .returned (.tuple #[v0_, .int .i64 r2]) ∧ Kd.R (Kd.int .u8) 5 w' w.heap.size (fun _ => True) v0_ r1 ∧ Below w.heap.size w w' := by
 have HR1 := Aside0.mk hr1
 have HC1 := Aside0.mk hc1
 have HM1 := Aside0.mk hr1.2.1
 clear hr1 hc1
 have HB0 := Aside0.mk ((Below.refl w.heap.size w).alloc (Nat.le_refl _) (.cells #[.int .i64 a0_0, .int .i64 a0_1, .int .i64 a0_2, .int .i64 a0_3, .int .i64 a0_4] 49))
 unfold seal_Seal.f at h
 by_cases hm : sealMay a0_0 a0_1 a0_2 a0_3 a0_4 = false
 ·rw [if_pos hm] at h
  obtain ⟨rfl, rfl⟩ : [] = r1 ∧ 1 = r2 := by simpa using h
  have HM := Aside0.mk (show seal_may.f a0_0 a0_1 a0_2 a0_3 a0_4 = some false from congrArg some hm)
  clear h hm
  go_enter Try.func30, Try.ntmps30
  go_wp2_with (go_at_call 37; refine (seal_may.calls _ _ _ _ _ false _ HM.out).mono ?_; rintro e w1 ⟨rfl, hb⟩; have HB1 := Aside0.mk (below_step HB0.out hb); clear hb)
  go_ret2
  exact ⟨_, rfl, Kd.R_nil _ _ _ _ _, HB1.out⟩
 rw [if_neg hm] at h
 have HM := Aside0.mk (show seal_may.f a0_0 a0_1 a0_2 a0_3 a0_4 = some true from congrArg some (Bool.not_eq_false _ ▸ hm))
 clear hm
 by_cases hl : (l1.length : Int) > 236
 ·rw [if_pos hl] at h
  obtain ⟨rfl, rfl⟩ : [] = r1 ∧ 7 = r2 := by simpa using h
  have hd : decide ((236 : Int) < (l1.length : Int)) = true := decide_eq_true (by omega)
  have hm1 := HM1.out
  clear h hl
  go_enter Try.func30, Try.ntmps30
  go_wp2_with (go_at_call 37; refine (seal_may.calls _ _ _ _ _ true _ HM.out).mono ?_; rintro e w1 ⟨rfl, hb⟩; have HB1 := Aside0.mk (below_step HB0.out hb); clear hb)
  go_ret2
  exact ⟨_, rfl, Kd.R_nil _ _ _ _ _, HB1.out⟩
 rw [if_neg hl] at h
 have hle : l1.length ≤ 236 := by omega
 have HL1 := Aside0.mk hle
 have RL := Aside0.mk (sealRow_len a0_0 a0_1 a0_2 a0_3 a0_4 l1 hle)
 have HT0 := Aside0.mk (fun E (he : E = sealHead a0_0 a0_1 a0_2 a0_3 a0_4) (hz : E.length = 11) => show splice (splice zeroL 4 (nums .u8 E)) 20 (nums .u8 l1) = nums .u8 (List.replicate 4 0 ++ sealRow a0_0 a0_1 a0_2 a0_3 a0_4 l1) from by rw [seal_two E l1 hz hle, he]; rfl)
 clear hle
 generalize sealRow a0_0 a0_1 a0_2 a0_3 a0_4 l1 = Rw at *
 obtain ⟨s, hs, h2⟩ := Option.bind_eq_some_iff.1 h
 obtain ⟨rfl, rfl⟩ : _ = r1 ∧ 0 = r2 := by simpa using h2
 have HS := Aside0.mk hs
 clear h2
 have P6 := Aside0.mk (put_some [] (wrap64 s) 4 (by omega) (by omega) (by simp))
 have Z6 := Aside0.mk (eights_length (wrap64 s) 4)
 rw [List.nil_append] at P6
 generalize eights (wrap64 s) 4 = E6 at *
 have hd : decide ((236 : Int) < (l1.length : Int)) = false := decide_eq_false (by omega)
 have hm1 := HM1.out
 have hmk : ∀ W : World, (Instr.makeSlice 22 (.int .i64 256) (.int .i64 256)).run Try.prog W = .ok (.slice (some ⟨W.heap.size, 0, none⟩) 256 256) (W.alloc (.cells zeroL.toArray 5)) := fun _ => by kernel_rfl
 clear h hl hs
 go_enter Try.func30, Try.ntmps30
 go_wp2_with (go_at_call 37; refine (seal_may.calls _ _ _ _ _ true _ HM.out).mono ?_; rintro e w1 ⟨rfl, hb⟩; have HB1 := Aside0.mk (below_step HB0.out hb); have HE := Aside0.mk hb; clear hb)
 obtain ⟨E1, hE1⟩ : ∃ E, E = eights a0_0 1 := ⟨_, rfl⟩
 obtain ⟨E2, hE2⟩ : ∃ E, E = E1 ++ eights a0_3 1 := ⟨_, rfl⟩
 obtain ⟨E3, hE3⟩ : ∃ E, E = E2 ++ eights a0_1 2 := ⟨_, rfl⟩
 obtain ⟨E4, hE4⟩ : ∃ E, E = E3 ++ eights a0_2 2 := ⟨_, rfl⟩
 obtain ⟨E5, hE5⟩ : ∃ E, E = E4 ++ eights a0_4 5 := ⟨_, rfl⟩
 have z1 : E1.length = 1 := by rw [hE1, eights_length]
 have z2 : E2.length = 2 := by rw [hE2, List.length_append, eights_length]; omega
 have z3 : E3.length = 4 := by rw [hE3, List.length_append, eights_length]; omega
 have z4 : E4.length = 6 := by rw [hE4, List.length_append, eights_length]; omega
 have z5 : E5.length = 11 := by rw [hE5, List.length_append, eights_length]; omega
 have P1 := Aside0.mk (show num_Put.f [] a0_0 1 = some E1 from by rw [hE1]; exact put_some [] a0_0 1 (by omega) (by omega) (by simp))
 have P2 := Aside0.mk (show num_Put.f E1 a0_3 1 = some E2 from by rw [hE2]; exact put_some E1 a0_3 1 (by omega) (by omega) (by omega))
 have P3 := Aside0.mk (show num_Put.f E2 a0_1 2 = some E3 from by rw [hE3]; exact put_some E2 a0_1 2 (by omega) (by omega) (by omega))
 have P4 := Aside0.mk (show num_Put.f E3 a0_2 2 = some E4 from by rw [hE4]; exact put_some E3 a0_2 2 (by omega) (by omega) (by omega))
 have P5 := Aside0.mk (show num_Put.f E4 a0_4 5 = some E5 from by rw [hE5]; exact put_some E4 a0_4 5 (by omega) (by omega) (by omega))
 have HH := Aside0.mk (show E5 = sealHead a0_0 a0_1 a0_2 a0_3 a0_4 from by rw [hE5, hE4, hE3, hE2, hE1]; rfl)
 have Z5 := Aside0.mk z5
 clear hE1 hE2 hE3 hE4 hE5 z1 z2 z3 z4 z5
 have HX := Aside0.mk (show w1.heap[w.heap.size]? = some (.cells #[.int .i64 a0_0, .int .i64 a0_1, .int .i64 a0_2, .int .i64 a0_3, .int .i64 a0_4] 49 (0, 0)) from (HE.out.block _ (by simp)).trans (heap_alloc_new w _))
 have HX2 := Aside0.mk (show (w1.alloc (.cells zeroL.toArray 5)).heap[w.heap.size]? = some (.cells #[.int .i64 a0_0, .int .i64 a0_1, .int .i64 a0_2, .int .i64 a0_3, .int .i64 a0_4] 49 (0, 0)) from (heap_alloc_old w1 _ (blk_lt HX.out)).trans HX.out)
 have HZ := Aside0.mk (heap_alloc_new w1 (.cells zeroL.toArray 5))
 have HB2 := Aside0.mk (HB1.out.alloc HB1.out.size (.cells zeroL.toArray 5))
 have HG := Aside0.mk (HB1.out.size)
 have HN := Aside0.mk (blk_lt HX.out)
 clear HB0 HB1 HE HX
 generalize w1.alloc (.cells zeroL.toArray 5) = W2 at *
 generalize w1.heap.size = gz at *
 clear hmk
 have k0 := blk_cell HX2.out 0
 have k1 := blk_cell HX2.out 1
 have k3 := blk_cell HX2.out 3
 go_region_held3 (fun w' => w'.cell? ⟨w.heap.size, 0, none⟩ = some (.int .i64 a0_0) ∧ w'.cell? ⟨w.heap.size, 3, none⟩ = some (.int .i64 a0_3) ∧ w'.cell? ⟨w.heap.size, 1, none⟩ = some (.int .i64 a0_1)) (first | exact ⟨k0, k3, k1⟩ | go_keep)
  (first
   | (go_at_call_of 29 (Value.slice none 0 0); refine (num_Put.calls none 0 [] a0_0 1 E1 _ (Kd.C_nil _ _) (Nat.le_refl _) P1.out).mono ?_; rintro e w2 ⟨v2, rfl, ho, hb⟩; obtain ⟨A2, m2, he2, hm2, hC2⟩ := Kd.R_reads ho; subst he2; have HX3 := Aside0.mk (blk_below (blk_drew HX2.out) hb); have HZ3 := Aside0.mk (blk_below (blk_drew HZ.out) hb); have HB3 := Aside0.mk (below_step (below_drew HB2.out) hb); have HC2 := Aside0.mk hC2; have HM2 := Aside0.mk hm2; clear k0 k1 k3; have k0 := blk_cell HX3.out 0; have k1 := blk_cell HX3.out 1; have k3 := blk_cell HX3.out 3; clear ho hb hC2 hm2 HX2 HZ HB2)
   | (go_at_call_of 29 (Value.slice A2 E1.length m2); refine (num_Put.calls A2 m2 E1 a0_3 1 E2 _ HC2.out HM2.out P2.out).mono ?_; rintro e w3 ⟨v3, rfl, ho, hb⟩; obtain ⟨A3, m3, he3, hm3, hC3⟩ := Kd.R_reads ho; subst he3; have HX4 := Aside0.mk (blk_below HX3.out hb); have HZ4 := Aside0.mk (blk_below HZ3.out hb); have HB4 := Aside0.mk (below_step HB3.out hb); have HC3 := Aside0.mk hC3; have HM3 := Aside0.mk hm3; clear k0 k1 k3; have k0 := blk_cell HX4.out 0; have k1 := blk_cell HX4.out 1; have k3 := blk_cell HX4.out 3; clear ho hb hC3 hm3 HX3 HZ3 HB3)
   | (go_at_call_of 29 (Value.slice A3 E2.length m3); refine (num_Put.calls A3 m3 E2 a0_1 2 E3 _ HC3.out HM3.out P3.out).mono ?_; rintro e w4 ⟨v4, rfl, ho, hb⟩; obtain ⟨A4, m4, he4, hm4, hC4⟩ := Kd.R_reads ho; subst he4; have HX5 := Aside0.mk (blk_below HX4.out hb); have HZ5 := Aside0.mk (blk_below HZ4.out hb); have HB5 := Aside0.mk (below_step HB4.out hb); have HC4 := Aside0.mk hC4; have HM4 := Aside0.mk hm4; clear k0 k1 k3; have k0 := blk_cell HX5.out 0; have k1 := blk_cell HX5.out 1; have k3 := blk_cell HX5.out 3; clear ho hb hC4 hm4 HX4 HZ4 HB4))
 clear k0 k1 k3
 have k2 := blk_cell HX5.out 2
 have k4 := blk_cell HX5.out 4
 go_wp2
 go_outline
 go_region_held3 (fun w' => w'.cell? ⟨w.heap.size, 2, none⟩ = some (.int .i64 a0_2) ∧ w'.cell? ⟨w.heap.size, 4, none⟩ = some (.int .i64 a0_4)) (first | exact ⟨k2, k4⟩ | go_keep)
  (first
   | (go_at_call_of 29 (Value.slice A4 E3.length m4); refine (num_Put.calls A4 m4 E3 a0_2 2 E4 _ (Kd.C_drew HC4.out) HM4.out P4.out).mono ?_; rintro e w5 ⟨v5, rfl, ho, hb⟩; obtain ⟨A5, m5, he5, hm5, hC5⟩ := Kd.R_reads ho; subst he5; have HX6 := Aside0.mk (blk_below (blk_drew HX5.out) hb); have HZ6 := Aside0.mk (blk_below (blk_drew HZ5.out) hb); have HB6 := Aside0.mk (below_step (below_drew HB5.out) hb); have HC5 := Aside0.mk hC5; have HM5 := Aside0.mk hm5; clear k2 k4; have k2 := blk_cell HX6.out 2; have k4 := blk_cell HX6.out 4; clear ho hb hC5 hm5 HX5 HZ5 HB5)
   | (go_at_call_of 29 (Value.slice A5 E4.length m5); refine (num_Put.calls A5 m5 E4 a0_4 5 E5 _ HC5.out HM5.out P5.out).mono ?_; rintro e w6 ⟨v6, rfl, ho, hb⟩; obtain ⟨A6, m6, he6, hm6, hC6⟩ := Kd.R_reads ho; subst he6; have HX7 := Aside0.mk (blk_below HX6.out hb); have HZ7 := Aside0.mk (blk_below HZ6.out hb); have HB7 := Aside0.mk (below_step HB6.out hb); have HC6 := Aside0.mk hC6; have HM6 := Aside0.mk hm6; clear k2 k4; have k2 := blk_cell HX7.out 2; have k4 := blk_cell HX7.out 4; clear ho hb hC6 hm6 HX6 HZ6 HB6)
   | (refine step_copy_splice rfl (.tmp 27) (.tmp 34) 22 22 rfl 5 Try.underlying22 (by kernel_rfl) _ _ _ _ _ _ rfl rfl gz 4 zeroL 5 HZ7.out (nums .u8 E5) (by rw [nums_length, Z5.out]; rfl) (fun hp => ⟨rfl, C_src HC6.out hp⟩) (by rw [nums_length, Z5.out, zeroL_is, List.length_replicate]; omega) (nums_one _) gz _ (Below.refl _ _) (Nat.le_refl _) ?_; intro w7 hg7 hb7; have HX8 := Aside0.mk ((hb7.block _ HN.out).trans HX7.out); have HG8 := Aside0.mk hg7.out; have HB8 := Aside0.mk (HB7.out.trans (hb7.mono HG.out)); clear k2 k4; have k2 := blk_cell HX8.out 2; have k4 := blk_cell HX8.out 4; clear hg7 hb7 HX7 HZ7 HB7))
 clear k2 k4 HX8
 have HR2 := Aside0.mk (Kd.C_below HR1.out HB8.out)
 have HT := Aside0.mk (HT0.out E5 HH.out Z5.out)
 clear HT0 HH
 go_wp2_with (with_reducible refine wpList_copy_splice rfl (.tmp 37) (.tmp 38) 22 22 rfl 5 Try.underlying22 (by kernel_rfl) _ _ _ _ _ _ rfl rfl gz 20 _ 5 HG8.out (nums .u8 l1) (by rw [nums_length]; exact (Nat.min_eq_left HL1.out).symm) (fun hp => ⟨rfl, C_src HR2.out hp⟩) (by rw [nums_length, length_splice _ _ _ (by rw [nums_length, Z5.out, zeroL_is, List.length_replicate]; omega), zeroL_is, List.length_replicate]; have := HL1.out; omega) (nums_one _) gz _ (Below.refl _ _) (Nat.le_refl _) ?_; intro w8 hg8 hb8; have HG9 := Aside0.mk (copied hg8.out HT.out); have HB9 := Aside0.mk (HB8.out.trans (hb8.mono HG.out)); clear hg8 hb8 HG8 HB8 HR2)
 have HSc := sum_Sum.calls (some ⟨gz, 4, none⟩) 252 Rw s _ (blk_C HG9.out 4 Rw (fun j p h => by simpa using nums_at (List.replicate 4 0) Rw j p h) (by rw [RL.out]; decide)) (by rw [RL.out]; exact Nat.le_refl _) HS.out
 rw [RL.out] at HSc
 refine HSc.mono ?_
 rintro e w9 ⟨rfl, hb⟩
 have HG10 := Aside0.mk (blk_below HG9.out hb)
 have HB10 := Aside0.mk (below_step HB9.out hb)
 clear HSc hb HG9 HB9
 go_wp2_with fail
 refine (num_Put.calls none 0 [] (wrap64 s) 4 E6 _ (Kd.C_nil _ _) (Nat.le_refl _) P6.out).mono ?_
 rintro e w10 ⟨v10, rfl, ho, hb⟩
 obtain ⟨A7, m7, he7, hm7, hC7⟩ := Kd.R_reads ho
 subst he7
 have HG11 := Aside0.mk (blk_below HG10.out hb)
 have HB11 := Aside0.mk (below_step HB10.out hb)
 have HC7 := Aside0.mk hC7
 clear hC7 hb ho hm7 HG10 HB10
 have hf1 : (nums .u8 E6).length = Nat.min E6.length 256 := by rw [nums_length, Z6.out]; rfl
 have hf2 : 0 + (nums .u8 E6).length ≤ (nums .u8 (List.replicate 4 0 ++ Rw)).length := by rw [nums_length, nums_length, List.length_append, List.length_replicate, RL.out, Z6.out]; omega
 have HF1 := Aside0.mk hf1
 have HF2 := Aside0.mk hf2
 clear hf1 hf2
 go_wp2_with (with_reducible refine wpList_copy_splice rfl (.tmp 40) (.tmp 45) 22 22 rfl 5 Try.underlying22 (by kernel_rfl) _ _ _ _ _ _ rfl rfl gz 0 _ 5 HG11.out (nums .u8 E6) HF1.out (fun hp => ⟨rfl, C_src HC7.out hp⟩) HF2.out (nums_one _) gz _ (Below.refl _ _) (Nat.le_refl _) ?_; intro w11 hg11 hb11; have HG12 := Aside0.mk (copied hg11.out (seal_three E6 Rw Z6.out)); have HB12 := Aside0.mk (HB11.out.trans (hb11.mono HG.out)); clear hg11 hb11 HG11 HB11)
 go_ret2
 have hz := RL.out
 have hz6 := Z6.out
 exact ⟨_, rfl, Kd.R_of_own (enc := Value.int .u8) (h1 := fun _ => rfl) ⟨by simp [encs], Or.inr ⟨gz, 256, _, by rw [List.length_append, hz, hz6]; rfl, HG.out, HG12.out, by rw [List.length_append, hz, hz6]; omega, by decide, by simp [nums_length, hz, hz6], by rw [List.toList_toArray, List.take_of_length_le (by rw [nums_length]; omega)]; rfl⟩⟩ (fun _ _ => trivial), HB12.out⟩
/-! ### end of GIVEN -/
-- NOT PRINTED: function 19 (super_Write)

end Go.Proofs.Ytjpebckmjlmkmaa.P
