/- Functions and contracts, written by a program (mkprint.py, a wrapper of ours around the print); texts between GIVEN marks are ours. -/
import Derived.Test.YtcadbpneldjpbaaPx0
import Derived.Test.YtcadbpneldjpbaaPx2
namespace Go.Proofs.Ytcadbpneldjpbaa.P
open Go.RowKit Go.Proofs.YtcadbpneldjpbaaW.PrintWords Go.Proofs.YtcadbpneldjpbaaW.PrintLast Go.Proofs.YtcadbpneldjpbaaW.PrintMore
attribute [local go_sem] max2_int min2_int max_two min_two max_three min_three max_four min_four   -- for this text's walks alone
set_option linter.unusedVariables false
set_option linter.unusedSimpArgs false

/-! ### GIVEN seal_Open: function 11 -/
theorem below_grown {B g : Nat} {w W W1 : World} (hb : Below B w W) (hg : W.grownBy W1 (some g)) (h : B ≤ g) (hs : B ≤ W.heap.size) : Below B w W1 :=
  hb.trans ⟨hg.os, hg.tape, hg.output, hg.size, fun k hk => hg.block k (by omega) (by simp; omega)⟩
def seal_Open.f (l0 : List Int) : Option (Int × Int × Int × Int × Int × List Int × Int) :=
  if (l0.length : Int) ≠ 256 then some (0, 0, 0, 0, 0, [], 3) else
    (num_Take.f l0 4).bind fun t0 => (sum_Sum.f t0.2.1).bind fun s => (num_Take.f t0.2.1 1).bind fun t1 => (num_Take.f t1.2.1 1).bind fun t2 => (num_Take.f t2.2.1 2).bind fun t3 => (num_Take.f t3.2.1 2).bind fun t4 => (num_Take.f t4.2.1 5).bind fun t5 => (num_Take.f t5.2.1 5).bind fun t6 =>
      if t6.1 = 0 ∧ t0.1 = wrap64 s ∧ sealMay t1.1 t3.1 t4.1 t2.1 t5.1 = true then some (t1.1, t3.1, t4.1, t2.1, t5.1, t6.2.1, 0) else some (0, 0, 0, 0, 0, [], 3)
set_option maxHeartbeats 4000000 in
set_option maxRecDepth 100000 in
theorem seal_Open.callsR (A0 : Option Addr) (c0 : Nat) (l0 : List Int) (r1 r2 r3 r4 r5 : Int) (r6 : List Int) (r7 : Int) (w : World) (hr0 : Kd.C (Kd.int .u8) w A0 l0.length l0) (hc0 : l0.length ≤ c0) (h : seal_Open.f l0 = some (r1, r2, r3, r4, r5, r6, r7)) :
    Calls Try.prog 11 #[.slice A0 l0.length c0] w fun e w' => ∃ v5_ : Value, e = .returned (.tuple #[.agg #[.int .i64 r1, .int .i64 r2, .int .i64 r3, .int .i64 r4, .int .i64 r5], v5_, .int .i64 r7]) ∧ Kd.R (Kd.int .u8) 5 w' w.heap.size (fun _ => True) v5_ r6 ∧ Below w.heap.size w w' := by
  have HM0 := Aside0.mk hr0.2.1
  have HB := Aside0.mk (((Below.refl w.heap.size w).alloc (Nat.le_refl _) (.cells #[.slice A0 l0.length c0] 24)).alloc (by simp) (.cells #[.int .i64 0, .int .i64 0, .int .i64 0, .int .i64 0, .int .i64 0] 23))
  have HG := Aside0.mk (heap_alloc2_old w (.cells #[.slice A0 l0.length c0] 24) (.cells #[.int .i64 0, .int .i64 0, .int .i64 0, .int .i64 0, .int .i64 0] 23))
  have H2 := Aside0.mk (heap_alloc2_new w (.cells #[.slice A0 l0.length c0] 24) (.cells #[.int .i64 0, .int .i64 0, .int .i64 0, .int .i64 0, .int .i64 0] 23))
  have HR := Aside0.mk (Kd.C_alloc (Kd.C_alloc hr0 (.cells #[.slice A0 l0.length c0] 24)) (.cells #[.int .i64 0, .int .i64 0, .int .i64 0, .int .i64 0, .int .i64 0] 23))
  have HC := Aside0.mk hc0
  have hm0 := HM0.out
  clear hr0 hc0
  unfold seal_Open.f at h
  by_cases hl : (l0.length : Int) ≠ 256
  · rw [if_pos hl] at h
    obtain ⟨rfl, rfl, rfl, rfl, rfl, rfl, rfl⟩ : 0 = r1 ∧ 0 = r2 ∧ 0 = r3 ∧ 0 = r4 ∧ 0 = r5 ∧ [] = r6 ∧ 3 = r7 := by simpa using h
    have hn : ((l0.length : Int) != 256) = true := by simpa using hl
    clear h hl
    go_enter Try.func11, Try.ntmps11
    go_wp2
    exact bodyPost_ret (v := .tuple #[.agg #[.int .i64 0, .int .i64 0, .int .i64 0, .int .i64 0, .int .i64 0], .slice none 0 0, .int .i64 3]) (by simp [results, Try.results11, go_sem]) rfl ⟨_, rfl, Kd.R_nil _ _ _ _ _, HB.out⟩
  rw [if_neg hl] at h
  have hn : ((l0.length : Int) != 256) = false := by simpa using hl
  clear hl
  obtain ⟨⟨x0, q0, e0⟩, ht0, h2⟩ := Option.bind_eq_some_iff.1 h
  clear h
  have h := h2
  clear h2
  have T0 := Aside0.mk ht0
  clear ht0
  obtain ⟨s, hs, h2⟩ := Option.bind_eq_some_iff.1 h
  clear h
  have h := h2
  clear h2
  have HS := Aside0.mk hs
  clear hs
  obtain ⟨⟨x1, q1, e1⟩, ht1, h2⟩ := Option.bind_eq_some_iff.1 h
  clear h
  have h := h2
  clear h2
  have T1 := Aside0.mk ht1
  clear ht1
  obtain ⟨⟨x2, q2, e2⟩, ht2, h2⟩ := Option.bind_eq_some_iff.1 h
  clear h
  have h := h2
  clear h2
  have T2 := Aside0.mk ht2
  clear ht2
  obtain ⟨⟨x3, q3, e3⟩, ht3, h2⟩ := Option.bind_eq_some_iff.1 h
  clear h
  have h := h2
  clear h2
  have T3 := Aside0.mk ht3
  clear ht3
  obtain ⟨⟨x4, q4, e4⟩, ht4, h2⟩ := Option.bind_eq_some_iff.1 h
  clear h
  have h := h2
  clear h2
  have T4 := Aside0.mk ht4
  clear ht4
  obtain ⟨⟨x5, q5, e5⟩, ht5, h2⟩ := Option.bind_eq_some_iff.1 h
  clear h
  have h := h2
  clear h2
  have T5 := Aside0.mk ht5
  clear ht5
  obtain ⟨⟨x6, q6, e6⟩, ht6, h2⟩ := Option.bind_eq_some_iff.1 h
  clear h
  have h := h2
  clear h2
  have T6 := Aside0.mk ht6
  clear ht6
  dsimp only at T0 T1 T2 T3 T4 T5 T6 HS h
  go_enter Try.func11, Try.ntmps11
  go_wp2_with fail
  refine (seal_next.calls w.heap.size _ _ l0 4 x0 q0 e0 _ HG.out HR.out HC.out T0.out).mono ?_
  rintro e w1 ⟨A1, c1, rfl, hg, ho, hgr⟩
  have HG' := Aside0.mk hg
  have HR' := Aside0.mk (Kd.R_reads' ho).2.2
  have HC' := Aside0.mk (Kd.R_reads' ho).2.1
  have HO' := Aside0.mk ho
  have H2' := Aside0.mk (blk_grown H2.out hgr (by simp))
  have HB' := Aside0.mk (below_grown HB.out hgr (Nat.le_refl _) (by have := blk_lt HG.out; omega))
  have HS' := Aside0.mk (hgr.size)
  clear hg ho hgr HG HR HC H2 HB
  have HG := HG'
  have HR := HR'
  have HC := HC'
  have HO := HO'
  have H2 := H2'
  have HB := HB'
  have HSZ := HS'
  clear HG' HR' HC' HO' H2' HB' HS'
  have hcell := blk_cell HG.out 0
  rw [show (#[Value.slice A1 q0.length c1] : Array Value)[0]? = some (.slice A1 q0.length c1) from rfl] at hcell
  go_wp2_with fail
  refine (sum_Sum.calls _ _ q0 s _ HR.out HC.out HS.out).mono ?_
  rintro e w2 ⟨rfl, hb⟩
  have HG' := Aside0.mk (blk_below HG.out hb)
  have H2' := Aside0.mk (blk_below H2.out hb)
  have HR' := Aside0.mk (Kd.C_below HR.out hb)
  have HB' := Aside0.mk (below_step HB.out hb)
  clear hb HG HR H2 HB HO HSZ hcell
  have HG := HG'
  have H2 := H2'
  have HR := HR'
  have HB := HB'
  clear HG' HR' H2' HB'
  have hcell := blk_cell HG.out 0
  rw [show (#[Value.slice A1 q0.length c1] : Array Value)[0]? = some (.slice A1 q0.length c1) from rfl] at hcell
  go_wp2_with fail
  refine (seal_next.calls w.heap.size _ _ q0 1 x1 q1 e1 _ HG.out HR.out HC.out T1.out).mono ?_
  rintro e w3 ⟨A3, c3, rfl, hg, ho, hgr⟩
  have HG' := Aside0.mk hg
  have HR' := Aside0.mk (Kd.R_reads' ho).2.2
  have HC' := Aside0.mk (Kd.R_reads' ho).2.1
  have HO' := Aside0.mk ho
  have H2' := Aside0.mk (blk_grown H2.out hgr (by simp))
  have HB' := Aside0.mk (below_grown HB.out hgr (Nat.le_refl _) (by have := blk_lt HG.out; omega))
  have HS' := Aside0.mk (hgr.size)
  clear hg ho hgr HG HR HC H2 HB
  have HG := HG'
  have HR := HR'
  have HC := HC'
  have HO := HO'
  have H2 := H2'
  have HB := HB'
  have HSZ := HS'
  clear HG' HR' HC' HO' H2' HB' HS'
  have hcell := blk_cell HG.out 0
  rw [show (#[Value.slice A3 q1.length c3] : Array Value)[0]? = some (.slice A3 q1.length c3) from rfl] at hcell
  go_wp2_with fail
  have H8 := Aside0.mk (heap_alloc_new w3 (.cells #[.int .i64 x1, .int .i64 0, .int .i64 0, .int .i64 0, .int .i64 0] 23))
  have N8 := Aside0.mk (blk_lt H2.out)
  have HG' := Aside0.mk ((heap_alloc_old w3 (.cells #[.int .i64 x1, .int .i64 0, .int .i64 0, .int .i64 0, .int .i64 0] 23) (blk_lt HG.out)).trans HG.out)
  have H2' := Aside0.mk ((heap_alloc_old w3 (.cells #[.int .i64 x1, .int .i64 0, .int .i64 0, .int .i64 0, .int .i64 0] 23) (blk_lt H2.out)).trans H2.out)
  have HR' := Aside0.mk (Kd.C_alloc HR.out (.cells #[.int .i64 x1, .int .i64 0, .int .i64 0, .int .i64 0, .int .i64 0] 23))
  have HB' := Aside0.mk (HB.out.alloc HB.out.size (.cells #[.int .i64 x1, .int .i64 0, .int .i64 0, .int .i64 0, .int .i64 0] 23))
  have L8 := Aside0.mk (blk_lt H8.out)
  clear HG H2 HR HB HO HSZ hcell
  have HG := HG'
  have H2 := H2'
  have HR := HR'
  have HB := HB'
  clear HG' H2' HR' HB'
  generalize w3.alloc (.cells #[.int .i64 x1, .int .i64 0, .int .i64 0, .int .i64 0, .int .i64 0] 23) = V3 at *
  generalize w3.heap.size = g8 at *
  refine (seal_next.calls w.heap.size _ _ q1 1 x2 q2 e2 _ HG.out HR.out HC.out T2.out).mono ?_
  rintro e w4 ⟨A4, c4, rfl, hg, ho, hgr⟩
  have HG' := Aside0.mk hg
  have HC' := Aside0.mk (Kd.R_reads' ho).2.1
  have HO := Aside0.mk ho
  have H2' := Aside0.mk (blk_grown H2.out hgr (by simp))
  have HB' := Aside0.mk (below_grown HB.out hgr (Nat.le_refl _) (by have := blk_lt HG.out; omega))
  have H8' := Aside0.mk (blk_grown H8.out hgr (by have := N8.out; simp; omega))
  clear hg ho hgr HG HR HC H2 HB H8
  have HG := HG'
  have HC := HC'
  have H2 := H2'
  have HB := HB'
  have H8 := H8'
  clear HG' HC' H2' HB' H8'
  have hc8 := blk_cell H8.out 3
  rw [show (#[.int .i64 x1, .int .i64 0, .int .i64 0, .int .i64 0, .int .i64 0] : Array Value)[3]? = some (.int .i64 0) from rfl] at hc8
  have hf8 := blk_frozen H8.out 3
  go_wp2_with fail
  clear hc8 hf8
  have HG' := Aside0.mk ((heap_setCell_other w4 ⟨g8, 3, none⟩ w.heap.size (.int .i64 x2) (by have := N8.out; show w.heap.size ≠ g8; omega)).trans HG.out)
  have H2' := Aside0.mk ((heap_setCell_other w4 ⟨g8, 3, none⟩ (w.heap.size + 1) (.int .i64 x2) (by have := N8.out; show w.heap.size + 1 ≠ g8; omega)).trans H2.out)
  have H8' := Aside0.mk (show (w4.setCell ⟨g8, 3, none⟩ (.int .i64 x2)).heap[g8]? = some (.cells #[.int .i64 x1, .int .i64 0, .int .i64 0, .int .i64 x2, .int .i64 0] 23 (0, 0)) from heap_setCell_same w4 g8 3 _ _ (.int .i64 x2) H8.out)
  have HO' := Aside0.mk (Kd.R_far (p := ⟨g8, 3, none⟩) HO.out (fun k hk => by have := L8.out; show k ≠ g8; omega) (.int .i64 x2))
  have HR := Aside0.mk (Kd.R_reads' HO'.out).2.2
  have HB' := Aside0.mk (HB.out.setCell (p := ⟨g8, 3, none⟩) (by have := N8.out; show w.heap.size ≤ g8; omega) (.int .i64 x2))
  have L8' := Aside0.mk (blk_lt H8'.out)
  clear HG H2 H8 HO HB L8 HO'
  have HG := HG'
  have H2 := H2'
  have H8 := H8'
  have HB := HB'
  have L8 := L8'
  clear HG' H2' H8' HB' L8'
  generalize w4.setCell ⟨g8, 3, none⟩ (.int .i64 x2) = V4 at *
  refine (seal_next.calls w.heap.size _ _ q2 2 x3 q3 e3 _ HG.out HR.out HC.out T3.out).mono ?_
  rintro e w5 ⟨A5, c5, rfl, hg, ho, hgr⟩
  have HG' := Aside0.mk hg
  have HC' := Aside0.mk (Kd.R_reads' ho).2.1
  have HO := Aside0.mk ho
  have H2' := Aside0.mk (blk_grown H2.out hgr (by simp))
  have HB' := Aside0.mk (below_grown HB.out hgr (Nat.le_refl _) (by have := blk_lt HG.out; omega))
  have H8' := Aside0.mk (blk_grown H8.out hgr (by have := N8.out; simp; omega))
  clear hg ho hgr HG HR HC H2 HB H8
  have HG := HG'
  have HC := HC'
  have H2 := H2'
  have HB := HB'
  have H8 := H8'
  clear HG' HC' H2' HB' H8'
  have hc8 := blk_cell H8.out 1
  rw [show (#[.int .i64 x1, .int .i64 0, .int .i64 0, .int .i64 x2, .int .i64 0] : Array Value)[1]? = some (.int .i64 0) from rfl] at hc8
  have hf8 := blk_frozen H8.out 1
  go_wp2_with fail
  clear hc8 hf8
  have HG' := Aside0.mk ((heap_setCell_other w5 ⟨g8, 1, none⟩ w.heap.size (.int .i64 x3) (by have := N8.out; show w.heap.size ≠ g8; omega)).trans HG.out)
  have H2' := Aside0.mk ((heap_setCell_other w5 ⟨g8, 1, none⟩ (w.heap.size + 1) (.int .i64 x3) (by have := N8.out; show w.heap.size + 1 ≠ g8; omega)).trans H2.out)
  have H8' := Aside0.mk (show (w5.setCell ⟨g8, 1, none⟩ (.int .i64 x3)).heap[g8]? = some (.cells #[.int .i64 x1, .int .i64 x3, .int .i64 0, .int .i64 x2, .int .i64 0] 23 (0, 0)) from heap_setCell_same w5 g8 1 _ _ (.int .i64 x3) H8.out)
  have HO' := Aside0.mk (Kd.R_far (p := ⟨g8, 1, none⟩) HO.out (fun k hk => by have := L8.out; show k ≠ g8; omega) (.int .i64 x3))
  have HR := Aside0.mk (Kd.R_reads' HO'.out).2.2
  have HB' := Aside0.mk (HB.out.setCell (p := ⟨g8, 1, none⟩) (by have := N8.out; show w.heap.size ≤ g8; omega) (.int .i64 x3))
  have L8' := Aside0.mk (blk_lt H8'.out)
  clear HG H2 H8 HO HB L8 HO'
  have HG := HG'
  have H2 := H2'
  have H8 := H8'
  have HB := HB'
  have L8 := L8'
  clear HG' H2' H8' HB' L8'
  generalize w5.setCell ⟨g8, 1, none⟩ (.int .i64 x3) = V5 at *
  refine (seal_next.calls w.heap.size _ _ q3 2 x4 q4 e4 _ HG.out HR.out HC.out T4.out).mono ?_
  rintro e w6 ⟨A6, c6, rfl, hg, ho, hgr⟩
  have HG' := Aside0.mk hg
  have HC' := Aside0.mk (Kd.R_reads' ho).2.1
  have HO := Aside0.mk ho
  have H2' := Aside0.mk (blk_grown H2.out hgr (by simp))
  have HB' := Aside0.mk (below_grown HB.out hgr (Nat.le_refl _) (by have := blk_lt HG.out; omega))
  have H8' := Aside0.mk (blk_grown H8.out hgr (by have := N8.out; simp; omega))
  clear hg ho hgr HG HR HC H2 HB H8
  have HG := HG'
  have HC := HC'
  have H2 := H2'
  have HB := HB'
  have H8 := H8'
  clear HG' HC' H2' HB' H8'
  have hc8 := blk_cell H8.out 2
  rw [show (#[.int .i64 x1, .int .i64 x3, .int .i64 0, .int .i64 x2, .int .i64 0] : Array Value)[2]? = some (.int .i64 0) from rfl] at hc8
  have hf8 := blk_frozen H8.out 2
  go_wp2_with fail
  clear hc8 hf8
  have HG' := Aside0.mk ((heap_setCell_other w6 ⟨g8, 2, none⟩ w.heap.size (.int .i64 x4) (by have := N8.out; show w.heap.size ≠ g8; omega)).trans HG.out)
  have H2' := Aside0.mk ((heap_setCell_other w6 ⟨g8, 2, none⟩ (w.heap.size + 1) (.int .i64 x4) (by have := N8.out; show w.heap.size + 1 ≠ g8; omega)).trans H2.out)
  have H8' := Aside0.mk (show (w6.setCell ⟨g8, 2, none⟩ (.int .i64 x4)).heap[g8]? = some (.cells #[.int .i64 x1, .int .i64 x3, .int .i64 x4, .int .i64 x2, .int .i64 0] 23 (0, 0)) from heap_setCell_same w6 g8 2 _ _ (.int .i64 x4) H8.out)
  have HO' := Aside0.mk (Kd.R_far (p := ⟨g8, 2, none⟩) HO.out (fun k hk => by have := L8.out; show k ≠ g8; omega) (.int .i64 x4))
  have HR := Aside0.mk (Kd.R_reads' HO'.out).2.2
  have HB' := Aside0.mk (HB.out.setCell (p := ⟨g8, 2, none⟩) (by have := N8.out; show w.heap.size ≤ g8; omega) (.int .i64 x4))
  have L8' := Aside0.mk (blk_lt H8'.out)
  clear HG H2 H8 HO HB L8 HO'
  have HG := HG'
  have H2 := H2'
  have H8 := H8'
  have HB := HB'
  have L8 := L8'
  clear HG' H2' H8' HB' L8'
  generalize w6.setCell ⟨g8, 2, none⟩ (.int .i64 x4) = V6 at *
  refine (seal_next.calls w.heap.size _ _ q4 5 x5 q5 e5 _ HG.out HR.out HC.out T5.out).mono ?_
  rintro e w7 ⟨A7, c7, rfl, hg, ho, hgr⟩
  have HG' := Aside0.mk hg
  have HC' := Aside0.mk (Kd.R_reads' ho).2.1
  have HO := Aside0.mk ho
  have H2' := Aside0.mk (blk_grown H2.out hgr (by simp))
  have HB' := Aside0.mk (below_grown HB.out hgr (Nat.le_refl _) (by have := blk_lt HG.out; omega))
  have H8' := Aside0.mk (blk_grown H8.out hgr (by have := N8.out; simp; omega))
  clear hg ho hgr HG HR HC H2 HB H8
  have HG := HG'
  have HC := HC'
  have H2 := H2'
  have HB := HB'
  have H8 := H8'
  clear HG' HC' H2' HB' H8'
  have hc8 := blk_cell H8.out 4
  rw [show (#[.int .i64 x1, .int .i64 x3, .int .i64 x4, .int .i64 x2, .int .i64 0] : Array Value)[4]? = some (.int .i64 0) from rfl] at hc8
  have hf8 := blk_frozen H8.out 4
  go_wp2_with fail
  clear hc8 hf8
  have HG' := Aside0.mk ((heap_setCell_other w7 ⟨g8, 4, none⟩ w.heap.size (.int .i64 x5) (by have := N8.out; show w.heap.size ≠ g8; omega)).trans HG.out)
  have H2' := Aside0.mk ((heap_setCell_other w7 ⟨g8, 4, none⟩ (w.heap.size + 1) (.int .i64 x5) (by have := N8.out; show w.heap.size + 1 ≠ g8; omega)).trans H2.out)
  have H8' := Aside0.mk (show (w7.setCell ⟨g8, 4, none⟩ (.int .i64 x5)).heap[g8]? = some (.cells #[.int .i64 x1, .int .i64 x3, .int .i64 x4, .int .i64 x2, .int .i64 x5] 23 (0, 0)) from heap_setCell_same w7 g8 4 _ _ (.int .i64 x5) H8.out)
  have HO' := Aside0.mk (Kd.R_far (p := ⟨g8, 4, none⟩) HO.out (fun k hk => by have := L8.out; show k ≠ g8; omega) (.int .i64 x5))
  have HR := Aside0.mk (Kd.R_reads' HO'.out).2.2
  have HB' := Aside0.mk (HB.out.setCell (p := ⟨g8, 4, none⟩) (by have := N8.out; show w.heap.size ≤ g8; omega) (.int .i64 x5))
  have L8' := Aside0.mk (blk_lt H8'.out)
  clear HG H2 H8 HO HB L8 HO'
  have HG := HG'
  have H2 := H2'
  have H8 := H8'
  have HB := HB'
  have L8 := L8'
  clear HG' H2' H8' HB' L8'
  generalize w7.setCell ⟨g8, 4, none⟩ (.int .i64 x5) = V7 at *
  refine (seal_next.calls w.heap.size _ _ q5 5 x6 q6 e6 _ HG.out HR.out HC.out T6.out).mono ?_
  rintro e w8 ⟨A8, c8, rfl, hg, ho, hgr⟩
  have HG' := Aside0.mk hg
  have HC' := Aside0.mk (Kd.R_reads' ho).2.1
  have HO := Aside0.mk ho
  have H2' := Aside0.mk (blk_grown H2.out hgr (by simp))
  have HB' := Aside0.mk (below_grown HB.out hgr (Nat.le_refl _) (by have := blk_lt HG.out; omega))
  have H8' := Aside0.mk (blk_grown H8.out hgr (by have := N8.out; simp; omega))
  clear hg ho hgr HG HR HC H2 HB H8
  have HG := HG'
  have HC := HC'
  have H2 := H2'
  have HB := HB'
  have H8 := H8'
  clear HG' HC' H2' HB' H8'
  have H8c : ∀ i, i < 5 → w8.cell? ⟨g8, i, none⟩ = (#[.int .i64 x1, .int .i64 x3, .int .i64 x4, .int .i64 x2, .int .i64 x5] : Array Value)[i]? := fun i _ => blk_cell H8.out i
  have k0 := H8c 0 (by omega)
  have k1 := H8c 1 (by omega)
  have k2 := H8c 2 (by omega)
  have k3 := H8c 3 (by omega)
  have k4 := H8c 4 (by omega)
  rw [show (#[.int .i64 x1, .int .i64 x3, .int .i64 x4, .int .i64 x2, .int .i64 x5] : Array Value)[0]? = some (.int .i64 x1) from rfl] at k0
  rw [show (#[.int .i64 x1, .int .i64 x3, .int .i64 x4, .int .i64 x2, .int .i64 x5] : Array Value)[1]? = some (.int .i64 x3) from rfl] at k1
  rw [show (#[.int .i64 x1, .int .i64 x3, .int .i64 x4, .int .i64 x2, .int .i64 x5] : Array Value)[2]? = some (.int .i64 x4) from rfl] at k2
  rw [show (#[.int .i64 x1, .int .i64 x3, .int .i64 x4, .int .i64 x2, .int .i64 x5] : Array Value)[3]? = some (.int .i64 x2) from rfl] at k3
  rw [show (#[.int .i64 x1, .int .i64 x3, .int .i64 x4, .int .i64 x2, .int .i64 x5] : Array Value)[4]? = some (.int .i64 x5) from rfl] at k4
  have HON := Aside0.mk (fun (v : Value) (hv : v ∈ (#[.int .i64 0, .int .i64 0, .int .i64 0, .int .i64 0, .int .i64 0] : Array Value).toList) => show v.oneCell' = true from by simp at hv; rw [hv]; rfl)
  clear H8c
  by_cases h6 : x6 = 0
  case neg =>
    rw [if_neg (fun q => h6 q.1)] at h
    obtain ⟨rfl, rfl, rfl, rfl, rfl, rfl, rfl⟩ : 0 = r1 ∧ 0 = r2 ∧ 0 = r3 ∧ 0 = r4 ∧ 0 = r5 ∧ [] = r6 ∧ 3 = r7 := by simpa using h
    have hb6 : (x6 != 0) = true := by simpa using h6
    clear h h6
    go_wp2_with (refine Own.wpList_store_row rfl 23 _ _ rfl (w.heap.size + 1) rfl #[.int .i64 0, .int .i64 0, .int .i64 0, .int .i64 0, .int .i64 0] rfl 23 _ H2.out (by kernel_rfl) rfl HON.out ?_)
    exact bodyPost_ret (results_ctt rfl _ _ (w.heap.size + 1) 23 #[.int .i64 0, .int .i64 0, .int .i64 0, .int .i64 0, .int .i64 0] (0, 0) _ rfl (setRow_heap _ _ _ _ _ _ H2.out) Try.underlying23 rfl (by kernel_rfl)) rfl ⟨_, rfl, Kd.R_nil _ _ _ _ _, below_setRow HB.out (by omega) _⟩
  subst h6
  have hb6 : ((0 : Int) != 0) = false := rfl
  by_cases hq : x0 = wrap64 s
  case neg =>
    rw [if_neg (fun q => hq q.2.1)] at h
    obtain ⟨rfl, rfl, rfl, rfl, rfl, rfl, rfl⟩ : 0 = r1 ∧ 0 = r2 ∧ 0 = r3 ∧ 0 = r4 ∧ 0 = r5 ∧ [] = r6 ∧ 3 = r7 := by simpa using h
    have hbq : (x0 == wrap64 s) = false := by simpa using hq
    clear h hq
    go_wp2_with (refine Own.wpList_store_row rfl 23 _ _ rfl (w.heap.size + 1) rfl #[.int .i64 0, .int .i64 0, .int .i64 0, .int .i64 0, .int .i64 0] rfl 23 _ H2.out (by kernel_rfl) rfl HON.out ?_)
    exact bodyPost_ret (results_ctt rfl _ _ (w.heap.size + 1) 23 #[.int .i64 0, .int .i64 0, .int .i64 0, .int .i64 0, .int .i64 0] (0, 0) _ rfl (setRow_heap _ _ _ _ _ _ H2.out) Try.underlying23 rfl (by kernel_rfl)) rfl ⟨_, rfl, Kd.R_nil _ _ _ _ _, below_setRow HB.out (by omega) _⟩
  have hbq : (x0 == wrap64 s) = true := by simpa using hq
  by_cases hm : sealMay x1 x3 x4 x2 x5 = true
  case neg =>
    rw [if_neg (fun q => hm q.2.2)] at h
    obtain ⟨rfl, rfl, rfl, rfl, rfl, rfl, rfl⟩ : 0 = r1 ∧ 0 = r2 ∧ 0 = r3 ∧ 0 = r4 ∧ 0 = r5 ∧ [] = r6 ∧ 3 = r7 := by simpa using h
    have HM := Aside0.mk (show seal_may.f x1 x3 x4 x2 x5 = some false from congrArg some (by simpa using hm))
    clear h hq hm
    go_wp2_with fail
    refine (seal_may.calls x1 x3 x4 x2 x5 false _ HM.out).mono ?_
    rintro e w9 ⟨rfl, hb⟩
    have H2' := Aside0.mk (blk_below H2.out hb)
    have HB' := Aside0.mk (below_step HB.out hb)
    clear hb H2 HB hcell k0 k1 k2 k3 k4
    go_wp2_with (refine Own.wpList_store_row rfl 23 _ _ rfl (w.heap.size + 1) rfl #[.int .i64 0, .int .i64 0, .int .i64 0, .int .i64 0, .int .i64 0] rfl 23 _ H2'.out (by kernel_rfl) rfl HON.out ?_)
    exact bodyPost_ret (results_ctt rfl _ _ (w.heap.size + 1) 23 #[.int .i64 0, .int .i64 0, .int .i64 0, .int .i64 0, .int .i64 0] (0, 0) _ rfl (setRow_heap _ _ _ _ _ _ H2'.out) Try.underlying23 rfl (by kernel_rfl)) rfl ⟨_, rfl, Kd.R_nil _ _ _ _ _, below_setRow HB'.out (by omega) _⟩
  rw [if_pos ⟨rfl, hq, hm⟩] at h
  obtain ⟨rfl, rfl, rfl, rfl, rfl, rfl, rfl⟩ : x1 = r1 ∧ x3 = r2 ∧ x4 = r3 ∧ x2 = r4 ∧ x5 = r5 ∧ q6 = r6 ∧ 0 = r7 := by simpa using h
  have HM := Aside0.mk (show seal_may.f x1 x3 x4 x2 x5 = some true from congrArg some hm)
  clear h hq hm
  go_wp2_with fail
  refine (seal_may.calls x1 x3 x4 x2 x5 true _ HM.out).mono ?_
  rintro e w9 ⟨rfl, hb⟩
  have HG' := Aside0.mk (blk_below HG.out hb)
  have H8' := Aside0.mk (blk_below H8.out hb)
  have H2' := Aside0.mk (blk_below H2.out hb)
  have HB' := Aside0.mk (below_step HB.out hb)
  have HO' := Aside0.mk (Kd.R_below HO.out hb)
  clear hb HG H8 H2 HB HO hcell k0 k1 k2 k3 k4
  have k0 := blk_cell H8'.out 0
  have k1 := blk_cell H8'.out 1
  have k2 := blk_cell H8'.out 2
  have k3 := blk_cell H8'.out 3
  have k4 := blk_cell H8'.out 4
  have kb := blk_cell HG'.out 0
  rw [show (#[.int .i64 x1, .int .i64 x3, .int .i64 x4, .int .i64 x2, .int .i64 x5] : Array Value)[0]? = some (.int .i64 x1) from rfl] at k0
  rw [show (#[.int .i64 x1, .int .i64 x3, .int .i64 x4, .int .i64 x2, .int .i64 x5] : Array Value)[1]? = some (.int .i64 x3) from rfl] at k1
  rw [show (#[.int .i64 x1, .int .i64 x3, .int .i64 x4, .int .i64 x2, .int .i64 x5] : Array Value)[2]? = some (.int .i64 x4) from rfl] at k2
  rw [show (#[.int .i64 x1, .int .i64 x3, .int .i64 x4, .int .i64 x2, .int .i64 x5] : Array Value)[3]? = some (.int .i64 x2) from rfl] at k3
  rw [show (#[.int .i64 x1, .int .i64 x3, .int .i64 x4, .int .i64 x2, .int .i64 x5] : Array Value)[4]? = some (.int .i64 x5) from rfl] at k4
  rw [show (#[Value.slice A8 q6.length c8] : Array Value)[0]? = some (.slice A8 q6.length c8) from rfl] at kb
  go_wp2
  have N1 := N8.out
  have n1 : g8 ≠ w.heap.size + 1 := by omega
  have n2 : w.heap.size + 1 ≠ g8 := by omega
  have m0 := blk_cell H2'.out 0
  have m1 := blk_cell H2'.out 1
  have m2 := blk_cell H2'.out 2
  have m3 := blk_cell H2'.out 3
  have m4 := blk_cell H2'.out 4
  rw [show (#[.int .i64 0, .int .i64 0, .int .i64 0, .int .i64 0, .int .i64 0] : Array Value)[0]? = some (.int .i64 0) from rfl] at m0
  rw [show (#[.int .i64 0, .int .i64 0, .int .i64 0, .int .i64 0, .int .i64 0] : Array Value)[1]? = some (.int .i64 0) from rfl] at m1
  rw [show (#[.int .i64 0, .int .i64 0, .int .i64 0, .int .i64 0, .int .i64 0] : Array Value)[2]? = some (.int .i64 0) from rfl] at m2
  rw [show (#[.int .i64 0, .int .i64 0, .int .i64 0, .int .i64 0, .int .i64 0] : Array Value)[3]? = some (.int .i64 0) from rfl] at m3
  rw [show (#[.int .i64 0, .int .i64 0, .int .i64 0, .int .i64 0, .int .i64 0] : Array Value)[4]? = some (.int .i64 0) from rfl] at m4
  have f0 := blk_frozen H2'.out 0
  have f1 := blk_frozen H2'.out 1
  have f2 := blk_frozen H2'.out 2
  have f3 := blk_frozen H2'.out 3
  have f4 := blk_frozen H2'.out 4
  go_region_held3 (fun w' => w'.cell? ⟨g8, 0, none⟩ = some (.int .i64 x1) ∧ w'.cell? ⟨g8, 1, none⟩ = some (.int .i64 x3) ∧ w'.cell? ⟨g8, 2, none⟩ = some (.int .i64 x4) ∧ w'.cell? ⟨g8, 3, none⟩ = some (.int .i64 x2) ∧ w'.cell? ⟨g8, 4, none⟩ = some (.int .i64 x5) ∧ w'.cell? ⟨w.heap.size, 0, none⟩ = some (.slice A8 q6.length c8)) (go_keep)
    (first | fail)
  go_wp2
  have HF := HO'.out
  have L1 := L8.out
  have hfar : ∀ k, V7.heap.size ≤ k → k ≠ w.heap.size + 1 := fun k hk => by omega
  exact bodyPost_ret (results_ctt rfl _ _ (w.heap.size + 1) 23 #[.int .i64 x1, .int .i64 x3, .int .i64 x4, .int .i64 x2, .int .i64 x5] (0, 0) _ rfl (blk_drew (heap_setCell_same _ _ 4 _ _ _ (heap_setCell_same _ _ 3 _ _ _ (heap_setCell_same _ _ 2 _ _ _ (heap_setCell_same _ _ 1 _ _ _ (heap_setCell_same _ _ 0 _ _ _ H2'.out)))))) Try.underlying23 rfl (by kernel_rfl)) rfl
    ⟨_, rfl, Kd.R_lower (Kd.R_mono (Kd.R_drew (Kd.R_far (p := ⟨w.heap.size + 1, 4, none⟩) (Kd.R_far (p := ⟨w.heap.size + 1, 3, none⟩) (Kd.R_far (p := ⟨w.heap.size + 1, 2, none⟩) (Kd.R_far (p := ⟨w.heap.size + 1, 1, none⟩) (Kd.R_far (p := ⟨w.heap.size + 1, 0, none⟩) HF hfar _) hfar _) hfar _) hfar _) hfar _)) (fun _ _ => trivial)) (by omega),
      below_drew (((((HB'.out.setCell (p := ⟨w.heap.size + 1, 0, none⟩) (by show w.heap.size ≤ w.heap.size + 1; omega) _).setCell (p := ⟨w.heap.size + 1, 1, none⟩) (by show w.heap.size ≤ w.heap.size + 1; omega) _).setCell (p := ⟨w.heap.size + 1, 2, none⟩) (by show w.heap.size ≤ w.heap.size + 1; omega) _).setCell (p := ⟨w.heap.size + 1, 3, none⟩) (by show w.heap.size ≤ w.heap.size + 1; omega) _).setCell (p := ⟨w.heap.size + 1, 4, none⟩) (by show w.heap.size ≤ w.heap.size + 1; omega) _)⟩
theorem seal_Open.calls (A0 : Option Addr) (c0 : Nat) (l0 : List Int) (r1 r2 r3 r4 r5 : Int) (r6 : List Int) (r7 : Int) (w : World) (hr0 : Kd.C (Kd.int .u8) w A0 l0.length l0) (hc0 : l0.length ≤ c0) (h : seal_Open.f l0 = some (r1, r2, r3, r4, r5, r6, r7)) :
    Calls Try.prog 11 #[.slice A0 l0.length c0] w fun e w' => ∃ v5_ : Value, e = .returned (.tuple #[.agg #[.int .i64 r1, .int .i64 r2, .int .i64 r3, .int .i64 r4, .int .i64 r5], v5_, .int .i64 r7]) ∧ Kd.V (Kd.int .u8) 5 w' w.heap.size (fun k_ => (w.heap.size ≤ k_)) v5_ r6 ∧ Below w.heap.size w w' := by
  refine (seal_Open.callsR A0 c0 l0 r1 r2 r3 r4 r5 r6 r7 w hr0 hc0 h).mono ?_
  rintro e w' ⟨v_, rfl, ho, hb⟩
  exact ⟨v_, rfl, Kd.V_mono (Kd.R_V (Kd.R_bound ho)) (fun k_ hk => hk.2.1), hb⟩
/-! ### end of GIVEN -/
/-! ### seal_Check: function 13 -/
def seal_Check.f (l0 : List Int) (a1 : Int) (a2 : Int) : Option (Int × Int × Int × Int × Int × List Int × Int) := (seal_Open.f l0).bind fun bt103 => (if bt103.2.2.2.2.2.2 = 0 then (if bt103.1 = a1 then (if bt103.2.1 = a2 then (some (bt103.1, bt103.2.1, bt103.2.2.1, bt103.2.2.2.1, bt103.2.2.2.2.1, bt103.2.2.2.2.2.1, 0)) else (some (0, 0, 0, 0, 0, ([] : List Int), 3))) else (some (0, 0, 0, 0, 0, ([] : List Int), 3))) else (some (0, 0, 0, 0, 0, ([] : List Int), 3)))
set_option maxHeartbeats 8000000 in
set_option maxRecDepth 100000 in
theorem seal_Check.calls (A0 : Option Addr) (c0 : Nat) (l0 : List Int) (a1 : Int) (a2 : Int) (r1 : Int) (r2 : Int) (r3 : Int) (r4 : Int) (r5 : Int) (r6 : List Int) (r7 : Int) (w : World) (hr0 : Kd.C (Kd.int .u8) w A0 l0.length l0) (hc0 : l0.length ≤ c0) (h : seal_Check.f l0 a1 a2 = some (r1, r2, r3, r4, r5, r6, r7)) :
    Calls Try.prog 13 #[.slice A0 l0.length c0, .int .i64 a1, .int .i64 a2] w fun e w' => ∃ v5_ : Value, e = .returned (.tuple #[.agg #[.int .i64 r1, .int .i64 r2, .int .i64 r3, .int .i64 r4, .int .i64 r5], v5_, .int .i64 r7]) ∧ Kd.V (Kd.int .u8) 5 w' w.heap.size (fun k_ => (w.heap.size ≤ k_)) v5_ r6 ∧ Below w.heap.size w w' := by
  have hu23 := Try.underlying23
  have HR0 := Aside0.mk hr0
  have HC0 := Aside0.mk hc0
  clear hr0 hc0
  have HB := Aside0.mk (Below.refl w.heap.size w)
  have H : ((seal_Open.f l0).bind fun bt103 => (if bt103.2.2.2.2.2.2 = 0 then (if bt103.1 = a1 then (if bt103.2.1 = a2 then (some (bt103.1, bt103.2.1, bt103.2.2.1, bt103.2.2.2.1, bt103.2.2.2.2.1, bt103.2.2.2.2.2.1, 0)) else (some (0, 0, 0, 0, 0, ([] : List Int), 3))) else (some (0, 0, 0, 0, 0, ([] : List Int), 3))) else (some (0, 0, 0, 0, 0, ([] : List Int), 3)))) = some (r1, r2, r3, r4, r5, r6, r7) := h
  clear h
  replace H := Option.bind_eq_some_iff.mp H
  obtain ⟨⟨t103, t104, t105, t106, t107, t108, t111⟩, A40, H⟩ := H
  replace H : (if t111 = 0 then (if t103 = a1 then (if t104 = a2 then (some (t103, t104, t105, t106, t107, t108, 0)) else (some (0, 0, 0, 0, 0, ([] : List Int), 3))) else (some (0, 0, 0, 0, 0, ([] : List Int), 3))) else (some (0, 0, 0, 0, 0, ([] : List Int), 3))) = some (r1, r2, r3, r4, r5, r6, r7) := H
  have A4 := Aside0.mk A40
  clear A40
  by_cases c5 : t111 = 0
  · rw [if_pos c5] at H
    have c5b0 : (t111 == 0) = true := beq_iff_eq.mpr c5
    have c5b1 : (t111 != 0) = false := bne_eq_false_iff_eq.mpr c5
    clear c5
    by_cases c6 : t103 = a1
    · rw [if_pos c6] at H
      have c6b0 : (t103 == a1) = true := beq_iff_eq.mpr c6
      have c6b1 : (t103 != a1) = false := bne_eq_false_iff_eq.mpr c6
      clear c6
      by_cases c7 : t104 = a2
      · rw [if_pos c7] at H
        have c7b0 : (t104 == a2) = true := beq_iff_eq.mpr c7
        have c7b1 : (t104 != a2) = false := bne_eq_false_iff_eq.mpr c7
        clear c7
        simp only [Option.some.injEq, Prod.mk.injEq] at H
        obtain ⟨rfl, rfl, rfl, rfl, rfl, rfl, rfl⟩ := H
        go_enter Try.func13, Try.ntmps13
        go_wp2_with (first | ((with_reducible refine gate_dst (N := 6) rfl ?_); refine box_event ?hg (N := 6) ?hd (cs := #[.int .i64 0, .int .i64 0, .int .i64 0, .int .i64 0, .int .i64 0]) (t := 23) ?hr ?_; (case hd => rfl); (case hg => rfl); (case hr => first | (go_simp; done) | (go_simp; rfl)); intro gb102 hg w8 hbox hb; have n0_ := Aside0.mk (below_step (by repeat (first | (with_reducible first | exact HB.out | apply below_alloc | apply pw_below_drewN | apply below_drew1) | exact HB.out)) hb); have n1_ := Aside0.mk (hbox); have n2_ := Aside0.mk ((by rw [hg]; exact (below_size (by repeat (first | (with_reducible first | exact HB.out | apply below_alloc | apply pw_below_drewN | apply below_drew1) | exact HB.out))) : w.heap.size ≤ gb102)); have n3_ := Aside0.mk ((by rw [hg]; exact (below_size (by repeat (first | (with_reducible first | exact HB.out | apply below_alloc | apply pw_below_drewN | apply below_drew1) | exact HB.out))) : w.heap.size ≤ gb102)); clear HB; have HB := n0_; have BK102 := n1_; have GW102 := n2_; have GE102 := n3_; clear n0_ n1_ n2_ n3_; clear hb hbox hg) | ((with_reducible refine gate_callee (f := 11) rfl ?_); refine goesL_ (some 14) rfl rfl Try.func11 (by kernel_rfl) rfl #[.slice A0 l0.length c0] rfl (by (try simp only [List.map_toArray, List.map_cons, List.map_nil]); first | done | rfl | (simp only [List.length_drop, List.length_take]; rfl)) ?_; (with_reducible refine (seal_Open.calls _ _ l0 t103 t104 t105 t106 t107 t108 t111 _ ?side1 ?side2 A4.out).mono ?_); (case side1 => repeat (first | exact (Kd.C_below HR0.out HB.out) | (with_reducible refine Kd.C_alloc ?_ _) | (with_reducible refine Kd.C_drewN ?_ _) | (with_reducible refine Kd.C_drew ?_))); (case side2 => exact HC0.out); rintro e w9 ⟨v109, rfl, ho0, hb⟩; refine ⟨_, rfl, ?_⟩; have n0_ := Aside0.mk (Kd.V_lower (Kd.V_mono (ok' := fun k_ => (w.heap.size ≤ k_) ∧ k_ ≠ gb102) ho0 (fun k_ hk_ => ⟨(Nat.le_trans (below_size (by repeat (first | (with_reducible first | exact HB.out | apply below_alloc | apply pw_below_drewN | apply below_drew1 | refine below_set ?_ GE102.out) | exact HB.out))) hk_), (Kd.freshB (g := gb102) (o := .cells #[.int .i64 0, .int .i64 0, .int .i64 0, .int .i64 0, .int .i64 0] 23 (0, 0)) (by (with_reducible repeat (first | refine blk_drewN ?_ _ | refine blk_drew ?_ | refine blk_alloc ?_ _)); exact BK102.out) k_ hk_)⟩)) (below_size (by repeat (first | (with_reducible first | exact HB.out | apply below_alloc | apply pw_below_drewN | apply below_drew1 | refine below_set ?_ GE102.out) | exact HB.out)))); have n1_ := Aside0.mk (blk_below (g := gb102) (o := .cells #[.int .i64 0, .int .i64 0, .int .i64 0, .int .i64 0, .int .i64 0] 23 (0, 0)) (by (with_reducible repeat (first | refine blk_drewN ?_ _ | refine blk_drew ?_ | refine blk_alloc ?_ _)); exact BK102.out) hb); have n2_ := Aside0.mk (below_step (by repeat (first | (with_reducible first | exact HB.out | apply below_alloc | apply pw_below_drewN | apply below_drew1 | refine below_set ?_ GE102.out) | exact HB.out)) hb); clear BK102; clear HB; have HO110 := n0_; have BK102 := n1_; have HB := n2_; clear n0_ n1_ n2_; (try clear hb); (try clear hb2); (try clear hk); (try clear hi); (try clear ho0)) | ((with_reducible refine gate_dst (N := 9) rfl ?_); refine box_event ?hg (N := 9) ?hd (cs := #[.int .i64 0, .int .i64 0, .int .i64 0, .int .i64 0, .int .i64 0]) (t := 23) ?hr ?_; (case hd => rfl); (case hg => rfl); (case hr => first | (go_simp; done) | (go_simp; rfl)); intro gb112 hg w10 hbox hb; have n0_ := Aside0.mk (Kd.V_below (Kd.V_elderB (by (with_reducible repeat (first | apply Kd.V_alloc | apply Kd.V_drewN | apply Kd.V_drew)); exact HO110.out) gb112 (Nat.le_of_eq hg.symm)) hb); have n1_ := Aside0.mk (blk_below (g := gb102) (o := .cells #[.int .i64 0, .int .i64 0, .int .i64 0, .int .i64 0, .int .i64 0] 23 (0, 0)) (by (with_reducible repeat (first | refine blk_drewN ?_ _ | refine blk_drew ?_ | refine blk_alloc ?_ _)); exact BK102.out) hb); have n2_ := Aside0.mk (below_step (by repeat (first | (with_reducible first | exact HB.out | apply below_alloc | apply pw_below_drewN | apply below_drew1 | refine below_set ?_ GE102.out) | exact HB.out)) hb); have n3_ := Aside0.mk (hbox); have n4_ := Aside0.mk ((by rw [hg]; exact (below_size (by repeat (first | (with_reducible first | exact HB.out | apply below_alloc | apply pw_below_drewN | apply below_drew1 | refine below_set ?_ GE102.out) | exact HB.out))) : w.heap.size ≤ gb112)); have n5_ := Aside0.mk ((by rw [hg]; exact (below_size (by repeat (first | (with_reducible first | exact HB.out | apply below_alloc | apply pw_below_drewN | apply below_drew1 | refine below_set ?_ GE102.out) | exact HB.out))) : w.heap.size ≤ gb112)); have n6_ := Aside0.mk ((by rw [hg]; exact Nat.ne_of_lt (blk_lt (g := gb102) (o := .cells #[.int .i64 0, .int .i64 0, .int .i64 0, .int .i64 0, .int .i64 0] 23 (0, 0)) (by (with_reducible repeat (first | refine blk_drewN ?_ _ | refine blk_drew ?_ | refine blk_alloc ?_ _)); exact BK102.out)) : gb102 ≠ gb112)); have n7_ := Aside0.mk ((by rw [hg]; exact Nat.ne_of_gt (blk_lt (g := gb102) (o := .cells #[.int .i64 0, .int .i64 0, .int .i64 0, .int .i64 0, .int .i64 0] 23 (0, 0)) (by (with_reducible repeat (first | refine blk_drewN ?_ _ | refine blk_drew ?_ | refine blk_alloc ?_ _)); exact BK102.out)) : gb112 ≠ gb102)); clear HO110; clear BK102; clear HB; have HO110 := n0_; have BK102 := n1_; have HB := n2_; have BK112 := n3_; have GW112 := n4_; have GE112 := n5_; have NB102_112 := n6_; have NB112_102 := n7_; clear n0_ n1_ n2_ n3_ n4_ n5_ n6_ n7_; clear hb hbox hg; have hnb11 := NB112_102.out; have hnc11 := NB102_112.out; have hcz12_0 : w10.cell? ⟨gb112, 0, none⟩ = some (.int .i64 0) := (blk_cell BK112.out 0).trans rfl; have hcz12_1 : w10.cell? ⟨gb112, 1, none⟩ = some (.int .i64 0) := (blk_cell BK112.out 1).trans rfl; have hcz12_2 : w10.cell? ⟨gb112, 2, none⟩ = some (.int .i64 0) := (blk_cell BK112.out 2).trans rfl; have hcz12_3 : w10.cell? ⟨gb112, 3, none⟩ = some (.int .i64 0) := (blk_cell BK112.out 3).trans rfl; have hcz12_4 : w10.cell? ⟨gb112, 4, none⟩ = some (.int .i64 0) := (blk_cell BK112.out 4).trans rfl; have hfz12_0 := blk_frozen BK112.out 0; have hfz12_1 := blk_frozen BK112.out 1; have hfz12_2 := blk_frozen BK112.out 2; have hfz12_3 := blk_frozen BK112.out 3; have hfz12_4 := blk_frozen BK112.out 4; have hcz13_0 : w10.cell? ⟨gb102, 0, none⟩ = some (.int .i64 0) := (blk_cell BK102.out 0).trans rfl; have hcz13_1 : w10.cell? ⟨gb102, 1, none⟩ = some (.int .i64 0) := (blk_cell BK102.out 1).trans rfl; have hcz13_2 : w10.cell? ⟨gb102, 2, none⟩ = some (.int .i64 0) := (blk_cell BK102.out 2).trans rfl; have hcz13_3 : w10.cell? ⟨gb102, 3, none⟩ = some (.int .i64 0) := (blk_cell BK102.out 3).trans rfl; have hcz13_4 : w10.cell? ⟨gb102, 4, none⟩ = some (.int .i64 0) := (blk_cell BK102.out 4).trans rfl; have hfz13_0 := blk_frozen BK102.out 0; have hfz13_1 := blk_frozen BK102.out 1; have hfz13_2 := blk_frozen BK102.out 2; have hfz13_3 := blk_frozen BK102.out 3; have hfz13_4 := blk_frozen BK102.out 4))
        refine bodyPost_ret (results_ctt rfl _ _ gb102 23 #[.int .i64 t103, .int .i64 t104, .int .i64 t105, .int .i64 t106, .int .i64 t107] (0, 0) _ rfl (by (with_reducible repeat (first | refine blk_drewN ?_ _ | refine blk_drew ?_ | refine blk_alloc ?_ _)); refine blk_put (cs := #[.int .i64 t103, .int .i64 t104, .int .i64 t105, .int .i64 t106, .int .i64 0]) ?_ 4 _ rfl; (with_reducible repeat (first | refine blk_drewN ?_ _ | refine blk_drew ?_ | refine blk_alloc ?_ _)); refine blk_put (cs := #[.int .i64 t103, .int .i64 t104, .int .i64 t105, .int .i64 0, .int .i64 0]) ?_ 3 _ rfl; (with_reducible repeat (first | refine blk_drewN ?_ _ | refine blk_drew ?_ | refine blk_alloc ?_ _)); refine blk_put (cs := #[.int .i64 t103, .int .i64 t104, .int .i64 0, .int .i64 0, .int .i64 0]) ?_ 2 _ rfl; (with_reducible repeat (first | refine blk_drewN ?_ _ | refine blk_drew ?_ | refine blk_alloc ?_ _)); refine blk_put (cs := #[.int .i64 t103, .int .i64 0, .int .i64 0, .int .i64 0, .int .i64 0]) ?_ 1 _ rfl; (with_reducible repeat (first | refine blk_drewN ?_ _ | refine blk_drew ?_ | refine blk_alloc ?_ _)); refine blk_put (cs := #[.int .i64 0, .int .i64 0, .int .i64 0, .int .i64 0, .int .i64 0]) ?_ 0 _ rfl; (with_reducible repeat (first | refine blk_drewN ?_ _ | refine blk_drew ?_ | refine blk_alloc ?_ _)); refine blk_far ?_ NB102_112.out _; (with_reducible repeat (first | refine blk_drewN ?_ _ | refine blk_drew ?_ | refine blk_alloc ?_ _)); refine blk_far ?_ NB102_112.out _; (with_reducible repeat (first | refine blk_drewN ?_ _ | refine blk_drew ?_ | refine blk_alloc ?_ _)); refine blk_far ?_ NB102_112.out _; (with_reducible repeat (first | refine blk_drewN ?_ _ | refine blk_drew ?_ | refine blk_alloc ?_ _)); refine blk_far ?_ NB102_112.out _; (with_reducible repeat (first | refine blk_drewN ?_ _ | refine blk_drew ?_ | refine blk_alloc ?_ _)); refine blk_far ?_ NB102_112.out _; (with_reducible repeat (first | refine blk_drewN ?_ _ | refine blk_drew ?_ | refine blk_alloc ?_ _)); exact BK102.out) Try.underlying23 rfl (by kernel_rfl)) rfl ?_
        exact ⟨_, by first | rfl | (simp [errW_none, errW_some] <;> rfl) | (simp [*, errW_none, errW_some] <;> rfl), by (with_reducible repeat (first | apply Kd.V_alloc | apply Kd.V_drewN | apply Kd.V_drew)); exact Kd.V_mono (Kd.V_far (p := ⟨gb102, 4, none⟩) (Kd.V_far (p := ⟨gb102, 3, none⟩) (Kd.V_far (p := ⟨gb102, 2, none⟩) (Kd.V_far (p := ⟨gb102, 1, none⟩) (Kd.V_far (p := ⟨gb102, 0, none⟩) (Kd.V_far (p := ⟨gb112, 4, none⟩) (Kd.V_far (p := ⟨gb112, 3, none⟩) (Kd.V_far (p := ⟨gb112, 2, none⟩) (Kd.V_far (p := ⟨gb112, 1, none⟩) (Kd.V_far (p := ⟨gb112, 0, none⟩) (Kd.V_mono (Kd.V_mono HO110.out (fun k_ hk => (⟨hk, hk.2⟩ : _ ∧ k_ ≠ gb112))) (fun k_ hk => (⟨hk, hk.1.1.2⟩ : _ ∧ k_ ≠ gb102))) (fun _ hk => hk.1.2) (.int .i64 t103)) (fun _ hk => hk.1.2) (.int .i64 t104)) (fun _ hk => hk.1.2) (.int .i64 t105)) (fun _ hk => hk.1.2) (.int .i64 t106)) (fun _ hk => hk.1.2) (.int .i64 t107)) (fun _ hk => hk.2) (.int .i64 t103)) (fun _ hk => hk.2) (.int .i64 t104)) (fun _ hk => hk.2) (.int .i64 t105)) (fun _ hk => hk.2) (.int .i64 t106)) (fun _ hk => hk.2) (.int .i64 t107)) (fun _ hk => hk.1.1.1.1), by repeat (first | (with_reducible first | exact HB.out | apply below_alloc | apply pw_below_drewN | apply below_drew1 | refine below_set ?_ GE102.out | refine below_set ?_ GE112.out) | exact HB.out)⟩
      · rw [if_neg c7] at H
        have c7b0 : (t104 == a2) = false := beq_eq_false_iff_ne.mpr c7
        have c7b1 : (t104 != a2) = true := bne_iff_ne.mpr c7
        simp only [Option.some.injEq, Prod.mk.injEq] at H
        obtain ⟨rfl, rfl, rfl, rfl, rfl, rfl, rfl⟩ := H
        go_enter Try.func13, Try.ntmps13
        go_wp2_with (first | ((with_reducible refine gate_dst (N := 6) rfl ?_); refine box_event ?hg (N := 6) ?hd (cs := #[.int .i64 0, .int .i64 0, .int .i64 0, .int .i64 0, .int .i64 0]) (t := 23) ?hr ?_; (case hd => rfl); (case hg => rfl); (case hr => first | (go_simp; done) | (go_simp; rfl)); intro gb102 hg w14 hbox hb; have n0_ := Aside0.mk (below_step (by repeat (first | (with_reducible first | exact HB.out | apply below_alloc | apply pw_below_drewN | apply below_drew1) | exact HB.out)) hb); have n1_ := Aside0.mk (hbox); have n2_ := Aside0.mk ((by rw [hg]; exact (below_size (by repeat (first | (with_reducible first | exact HB.out | apply below_alloc | apply pw_below_drewN | apply below_drew1) | exact HB.out))) : w.heap.size ≤ gb102)); have n3_ := Aside0.mk ((by rw [hg]; exact (below_size (by repeat (first | (with_reducible first | exact HB.out | apply below_alloc | apply pw_below_drewN | apply below_drew1) | exact HB.out))) : w.heap.size ≤ gb102)); clear HB; have HB := n0_; have BK102 := n1_; have GW102 := n2_; have GE102 := n3_; clear n0_ n1_ n2_ n3_; clear hb hbox hg) | ((with_reducible refine gate_callee (f := 11) rfl ?_); refine goesL_ (some 14) rfl rfl Try.func11 (by kernel_rfl) rfl #[.slice A0 l0.length c0] rfl (by (try simp only [List.map_toArray, List.map_cons, List.map_nil]); first | done | rfl | (simp only [List.length_drop, List.length_take]; rfl)) ?_; (with_reducible refine (seal_Open.calls _ _ l0 t103 t104 t105 t106 t107 t108 t111 _ ?side1 ?side2 A4.out).mono ?_); (case side1 => repeat (first | exact (Kd.C_below HR0.out HB.out) | (with_reducible refine Kd.C_alloc ?_ _) | (with_reducible refine Kd.C_drewN ?_ _) | (with_reducible refine Kd.C_drew ?_))); (case side2 => exact HC0.out); rintro e w15 ⟨v109, rfl, ho0, hb⟩; refine ⟨_, rfl, ?_⟩; have n0_ := Aside0.mk (Kd.V_lower (Kd.V_mono (ok' := fun k_ => (w.heap.size ≤ k_) ∧ k_ ≠ gb102) ho0 (fun k_ hk_ => ⟨(Nat.le_trans (below_size (by repeat (first | (with_reducible first | exact HB.out | apply below_alloc | apply pw_below_drewN | apply below_drew1 | refine below_set ?_ GE102.out) | exact HB.out))) hk_), (Kd.freshB (g := gb102) (o := .cells #[.int .i64 0, .int .i64 0, .int .i64 0, .int .i64 0, .int .i64 0] 23 (0, 0)) (by (with_reducible repeat (first | refine blk_drewN ?_ _ | refine blk_drew ?_ | refine blk_alloc ?_ _)); exact BK102.out) k_ hk_)⟩)) (below_size (by repeat (first | (with_reducible first | exact HB.out | apply below_alloc | apply pw_below_drewN | apply below_drew1 | refine below_set ?_ GE102.out) | exact HB.out)))); have n1_ := Aside0.mk (blk_below (g := gb102) (o := .cells #[.int .i64 0, .int .i64 0, .int .i64 0, .int .i64 0, .int .i64 0] 23 (0, 0)) (by (with_reducible repeat (first | refine blk_drewN ?_ _ | refine blk_drew ?_ | refine blk_alloc ?_ _)); exact BK102.out) hb); have n2_ := Aside0.mk (below_step (by repeat (first | (with_reducible first | exact HB.out | apply below_alloc | apply pw_below_drewN | apply below_drew1 | refine below_set ?_ GE102.out) | exact HB.out)) hb); clear BK102; clear HB; have HO110 := n0_; have BK102 := n1_; have HB := n2_; clear n0_ n1_ n2_; (try clear hb); (try clear hb2); (try clear hk); (try clear hi); (try clear ho0)) | ((with_reducible refine gate_dst (N := 9) rfl ?_); refine box_event ?hg (N := 9) ?hd (cs := #[.int .i64 0, .int .i64 0, .int .i64 0, .int .i64 0, .int .i64 0]) (t := 23) ?hr ?_; (case hd => rfl); (case hg => rfl); (case hr => first | (go_simp; done) | (go_simp; rfl)); intro gb112 hg w16 hbox hb; have n0_ := Aside0.mk (Kd.V_below (Kd.V_elderB (by (with_reducible repeat (first | apply Kd.V_alloc | apply Kd.V_drewN | apply Kd.V_drew)); exact HO110.out) gb112 (Nat.le_of_eq hg.symm)) hb); have n1_ := Aside0.mk (blk_below (g := gb102) (o := .cells #[.int .i64 0, .int .i64 0, .int .i64 0, .int .i64 0, .int .i64 0] 23 (0, 0)) (by (with_reducible repeat (first | refine blk_drewN ?_ _ | refine blk_drew ?_ | refine blk_alloc ?_ _)); exact BK102.out) hb); have n2_ := Aside0.mk (below_step (by repeat (first | (with_reducible first | exact HB.out | apply below_alloc | apply pw_below_drewN | apply below_drew1 | refine below_set ?_ GE102.out) | exact HB.out)) hb); have n3_ := Aside0.mk (hbox); have n4_ := Aside0.mk ((by rw [hg]; exact (below_size (by repeat (first | (with_reducible first | exact HB.out | apply below_alloc | apply pw_below_drewN | apply below_drew1 | refine below_set ?_ GE102.out) | exact HB.out))) : w.heap.size ≤ gb112)); have n5_ := Aside0.mk ((by rw [hg]; exact (below_size (by repeat (first | (with_reducible first | exact HB.out | apply below_alloc | apply pw_below_drewN | apply below_drew1 | refine below_set ?_ GE102.out) | exact HB.out))) : w.heap.size ≤ gb112)); have n6_ := Aside0.mk ((by rw [hg]; exact Nat.ne_of_lt (blk_lt (g := gb102) (o := .cells #[.int .i64 0, .int .i64 0, .int .i64 0, .int .i64 0, .int .i64 0] 23 (0, 0)) (by (with_reducible repeat (first | refine blk_drewN ?_ _ | refine blk_drew ?_ | refine blk_alloc ?_ _)); exact BK102.out)) : gb102 ≠ gb112)); have n7_ := Aside0.mk ((by rw [hg]; exact Nat.ne_of_gt (blk_lt (g := gb102) (o := .cells #[.int .i64 0, .int .i64 0, .int .i64 0, .int .i64 0, .int .i64 0] 23 (0, 0)) (by (with_reducible repeat (first | refine blk_drewN ?_ _ | refine blk_drew ?_ | refine blk_alloc ?_ _)); exact BK102.out)) : gb112 ≠ gb102)); clear HO110; clear BK102; clear HB; have HO110 := n0_; have BK102 := n1_; have HB := n2_; have BK112 := n3_; have GW112 := n4_; have GE112 := n5_; have NB102_112 := n6_; have NB112_102 := n7_; clear n0_ n1_ n2_ n3_ n4_ n5_ n6_ n7_; clear hb hbox hg; have hnb17 := NB112_102.out; have hnc17 := NB102_112.out; have hcz18_0 : w16.cell? ⟨gb112, 0, none⟩ = some (.int .i64 0) := (blk_cell BK112.out 0).trans rfl; have hcz18_1 : w16.cell? ⟨gb112, 1, none⟩ = some (.int .i64 0) := (blk_cell BK112.out 1).trans rfl; have hcz18_2 : w16.cell? ⟨gb112, 2, none⟩ = some (.int .i64 0) := (blk_cell BK112.out 2).trans rfl; have hcz18_3 : w16.cell? ⟨gb112, 3, none⟩ = some (.int .i64 0) := (blk_cell BK112.out 3).trans rfl; have hcz18_4 : w16.cell? ⟨gb112, 4, none⟩ = some (.int .i64 0) := (blk_cell BK112.out 4).trans rfl; have hfz18_0 := blk_frozen BK112.out 0; have hfz18_1 := blk_frozen BK112.out 1; have hfz18_2 := blk_frozen BK112.out 2; have hfz18_3 := blk_frozen BK112.out 3; have hfz18_4 := blk_frozen BK112.out 4; have hcz19_0 : w16.cell? ⟨gb102, 0, none⟩ = some (.int .i64 0) := (blk_cell BK102.out 0).trans rfl; have hcz19_1 : w16.cell? ⟨gb102, 1, none⟩ = some (.int .i64 0) := (blk_cell BK102.out 1).trans rfl; have hcz19_2 : w16.cell? ⟨gb102, 2, none⟩ = some (.int .i64 0) := (blk_cell BK102.out 2).trans rfl; have hcz19_3 : w16.cell? ⟨gb102, 3, none⟩ = some (.int .i64 0) := (blk_cell BK102.out 3).trans rfl; have hcz19_4 : w16.cell? ⟨gb102, 4, none⟩ = some (.int .i64 0) := (blk_cell BK102.out 4).trans rfl; have hfz19_0 := blk_frozen BK102.out 0; have hfz19_1 := blk_frozen BK102.out 1; have hfz19_2 := blk_frozen BK102.out 2; have hfz19_3 := blk_frozen BK102.out 3; have hfz19_4 := blk_frozen BK102.out 4))
        refine bodyPost_ret (results_ctt rfl _ _ gb102 23 #[.int .i64 0, .int .i64 0, .int .i64 0, .int .i64 0, .int .i64 0] (0, 0) _ rfl (by (with_reducible repeat (first | refine blk_drewN ?_ _ | refine blk_drew ?_ | refine blk_alloc ?_ _)); refine blk_put (cs := #[.int .i64 0, .int .i64 0, .int .i64 0, .int .i64 0, .int .i64 0]) ?_ 4 _ rfl; (with_reducible repeat (first | refine blk_drewN ?_ _ | refine blk_drew ?_ | refine blk_alloc ?_ _)); refine blk_put (cs := #[.int .i64 0, .int .i64 0, .int .i64 0, .int .i64 0, .int .i64 0]) ?_ 3 _ rfl; (with_reducible repeat (first | refine blk_drewN ?_ _ | refine blk_drew ?_ | refine blk_alloc ?_ _)); refine blk_put (cs := #[.int .i64 0, .int .i64 0, .int .i64 0, .int .i64 0, .int .i64 0]) ?_ 2 _ rfl; (with_reducible repeat (first | refine blk_drewN ?_ _ | refine blk_drew ?_ | refine blk_alloc ?_ _)); refine blk_put (cs := #[.int .i64 0, .int .i64 0, .int .i64 0, .int .i64 0, .int .i64 0]) ?_ 1 _ rfl; (with_reducible repeat (first | refine blk_drewN ?_ _ | refine blk_drew ?_ | refine blk_alloc ?_ _)); refine blk_put (cs := #[.int .i64 0, .int .i64 0, .int .i64 0, .int .i64 0, .int .i64 0]) ?_ 0 _ rfl; (with_reducible repeat (first | refine blk_drewN ?_ _ | refine blk_drew ?_ | refine blk_alloc ?_ _)); refine blk_far ?_ NB102_112.out _; (with_reducible repeat (first | refine blk_drewN ?_ _ | refine blk_drew ?_ | refine blk_alloc ?_ _)); refine blk_far ?_ NB102_112.out _; (with_reducible repeat (first | refine blk_drewN ?_ _ | refine blk_drew ?_ | refine blk_alloc ?_ _)); refine blk_far ?_ NB102_112.out _; (with_reducible repeat (first | refine blk_drewN ?_ _ | refine blk_drew ?_ | refine blk_alloc ?_ _)); refine blk_far ?_ NB102_112.out _; (with_reducible repeat (first | refine blk_drewN ?_ _ | refine blk_drew ?_ | refine blk_alloc ?_ _)); refine blk_far ?_ NB102_112.out _; (with_reducible repeat (first | refine blk_drewN ?_ _ | refine blk_drew ?_ | refine blk_alloc ?_ _)); exact BK102.out) Try.underlying23 rfl (by kernel_rfl)) rfl ?_
        exact ⟨_, by first | rfl | (simp [errW_none, errW_some] <;> rfl) | (simp [*, errW_none, errW_some] <;> rfl), Kd.V_nil _ _ _ _ _, by repeat (first | (with_reducible first | exact HB.out | apply below_alloc | apply pw_below_drewN | apply below_drew1 | refine below_set ?_ GE102.out | refine below_set ?_ GE112.out) | exact HB.out)⟩
    · rw [if_neg c6] at H
      have c6b0 : (t103 == a1) = false := beq_eq_false_iff_ne.mpr c6
      have c6b1 : (t103 != a1) = true := bne_iff_ne.mpr c6
      simp only [Option.some.injEq, Prod.mk.injEq] at H
      obtain ⟨rfl, rfl, rfl, rfl, rfl, rfl, rfl⟩ := H
      go_enter Try.func13, Try.ntmps13
      go_wp2_with (first | ((with_reducible refine gate_dst (N := 6) rfl ?_); refine box_event ?hg (N := 6) ?hd (cs := #[.int .i64 0, .int .i64 0, .int .i64 0, .int .i64 0, .int .i64 0]) (t := 23) ?hr ?_; (case hd => rfl); (case hg => rfl); (case hr => first | (go_simp; done) | (go_simp; rfl)); intro gb102 hg w20 hbox hb; have n0_ := Aside0.mk (below_step (by repeat (first | (with_reducible first | exact HB.out | apply below_alloc | apply pw_below_drewN | apply below_drew1) | exact HB.out)) hb); have n1_ := Aside0.mk (hbox); have n2_ := Aside0.mk ((by rw [hg]; exact (below_size (by repeat (first | (with_reducible first | exact HB.out | apply below_alloc | apply pw_below_drewN | apply below_drew1) | exact HB.out))) : w.heap.size ≤ gb102)); have n3_ := Aside0.mk ((by rw [hg]; exact (below_size (by repeat (first | (with_reducible first | exact HB.out | apply below_alloc | apply pw_below_drewN | apply below_drew1) | exact HB.out))) : w.heap.size ≤ gb102)); clear HB; have HB := n0_; have BK102 := n1_; have GW102 := n2_; have GE102 := n3_; clear n0_ n1_ n2_ n3_; clear hb hbox hg) | ((with_reducible refine gate_callee (f := 11) rfl ?_); refine goesL_ (some 14) rfl rfl Try.func11 (by kernel_rfl) rfl #[.slice A0 l0.length c0] rfl (by (try simp only [List.map_toArray, List.map_cons, List.map_nil]); first | done | rfl | (simp only [List.length_drop, List.length_take]; rfl)) ?_; (with_reducible refine (seal_Open.calls _ _ l0 t103 t104 t105 t106 t107 t108 t111 _ ?side1 ?side2 A4.out).mono ?_); (case side1 => repeat (first | exact (Kd.C_below HR0.out HB.out) | (with_reducible refine Kd.C_alloc ?_ _) | (with_reducible refine Kd.C_drewN ?_ _) | (with_reducible refine Kd.C_drew ?_))); (case side2 => exact HC0.out); rintro e w21 ⟨v109, rfl, ho0, hb⟩; refine ⟨_, rfl, ?_⟩; have n0_ := Aside0.mk (Kd.V_lower (Kd.V_mono (ok' := fun k_ => (w.heap.size ≤ k_) ∧ k_ ≠ gb102) ho0 (fun k_ hk_ => ⟨(Nat.le_trans (below_size (by repeat (first | (with_reducible first | exact HB.out | apply below_alloc | apply pw_below_drewN | apply below_drew1 | refine below_set ?_ GE102.out) | exact HB.out))) hk_), (Kd.freshB (g := gb102) (o := .cells #[.int .i64 0, .int .i64 0, .int .i64 0, .int .i64 0, .int .i64 0] 23 (0, 0)) (by (with_reducible repeat (first | refine blk_drewN ?_ _ | refine blk_drew ?_ | refine blk_alloc ?_ _)); exact BK102.out) k_ hk_)⟩)) (below_size (by repeat (first | (with_reducible first | exact HB.out | apply below_alloc | apply pw_below_drewN | apply below_drew1 | refine below_set ?_ GE102.out) | exact HB.out)))); have n1_ := Aside0.mk (blk_below (g := gb102) (o := .cells #[.int .i64 0, .int .i64 0, .int .i64 0, .int .i64 0, .int .i64 0] 23 (0, 0)) (by (with_reducible repeat (first | refine blk_drewN ?_ _ | refine blk_drew ?_ | refine blk_alloc ?_ _)); exact BK102.out) hb); have n2_ := Aside0.mk (below_step (by repeat (first | (with_reducible first | exact HB.out | apply below_alloc | apply pw_below_drewN | apply below_drew1 | refine below_set ?_ GE102.out) | exact HB.out)) hb); clear BK102; clear HB; have HO110 := n0_; have BK102 := n1_; have HB := n2_; clear n0_ n1_ n2_; (try clear hb); (try clear hb2); (try clear hk); (try clear hi); (try clear ho0)) | ((with_reducible refine gate_dst (N := 9) rfl ?_); refine box_event ?hg (N := 9) ?hd (cs := #[.int .i64 0, .int .i64 0, .int .i64 0, .int .i64 0, .int .i64 0]) (t := 23) ?hr ?_; (case hd => rfl); (case hg => rfl); (case hr => first | (go_simp; done) | (go_simp; rfl)); intro gb112 hg w22 hbox hb; have n0_ := Aside0.mk (Kd.V_below (Kd.V_elderB (by (with_reducible repeat (first | apply Kd.V_alloc | apply Kd.V_drewN | apply Kd.V_drew)); exact HO110.out) gb112 (Nat.le_of_eq hg.symm)) hb); have n1_ := Aside0.mk (blk_below (g := gb102) (o := .cells #[.int .i64 0, .int .i64 0, .int .i64 0, .int .i64 0, .int .i64 0] 23 (0, 0)) (by (with_reducible repeat (first | refine blk_drewN ?_ _ | refine blk_drew ?_ | refine blk_alloc ?_ _)); exact BK102.out) hb); have n2_ := Aside0.mk (below_step (by repeat (first | (with_reducible first | exact HB.out | apply below_alloc | apply pw_below_drewN | apply below_drew1 | refine below_set ?_ GE102.out) | exact HB.out)) hb); have n3_ := Aside0.mk (hbox); have n4_ := Aside0.mk ((by rw [hg]; exact (below_size (by repeat (first | (with_reducible first | exact HB.out | apply below_alloc | apply pw_below_drewN | apply below_drew1 | refine below_set ?_ GE102.out) | exact HB.out))) : w.heap.size ≤ gb112)); have n5_ := Aside0.mk ((by rw [hg]; exact (below_size (by repeat (first | (with_reducible first | exact HB.out | apply below_alloc | apply pw_below_drewN | apply below_drew1 | refine below_set ?_ GE102.out) | exact HB.out))) : w.heap.size ≤ gb112)); have n6_ := Aside0.mk ((by rw [hg]; exact Nat.ne_of_lt (blk_lt (g := gb102) (o := .cells #[.int .i64 0, .int .i64 0, .int .i64 0, .int .i64 0, .int .i64 0] 23 (0, 0)) (by (with_reducible repeat (first | refine blk_drewN ?_ _ | refine blk_drew ?_ | refine blk_alloc ?_ _)); exact BK102.out)) : gb102 ≠ gb112)); have n7_ := Aside0.mk ((by rw [hg]; exact Nat.ne_of_gt (blk_lt (g := gb102) (o := .cells #[.int .i64 0, .int .i64 0, .int .i64 0, .int .i64 0, .int .i64 0] 23 (0, 0)) (by (with_reducible repeat (first | refine blk_drewN ?_ _ | refine blk_drew ?_ | refine blk_alloc ?_ _)); exact BK102.out)) : gb112 ≠ gb102)); clear HO110; clear BK102; clear HB; have HO110 := n0_; have BK102 := n1_; have HB := n2_; have BK112 := n3_; have GW112 := n4_; have GE112 := n5_; have NB102_112 := n6_; have NB112_102 := n7_; clear n0_ n1_ n2_ n3_ n4_ n5_ n6_ n7_; clear hb hbox hg; have hnb23 := NB112_102.out; have hnc23 := NB102_112.out; have hcz24_0 : w22.cell? ⟨gb112, 0, none⟩ = some (.int .i64 0) := (blk_cell BK112.out 0).trans rfl; have hcz24_1 : w22.cell? ⟨gb112, 1, none⟩ = some (.int .i64 0) := (blk_cell BK112.out 1).trans rfl; have hcz24_2 : w22.cell? ⟨gb112, 2, none⟩ = some (.int .i64 0) := (blk_cell BK112.out 2).trans rfl; have hcz24_3 : w22.cell? ⟨gb112, 3, none⟩ = some (.int .i64 0) := (blk_cell BK112.out 3).trans rfl; have hcz24_4 : w22.cell? ⟨gb112, 4, none⟩ = some (.int .i64 0) := (blk_cell BK112.out 4).trans rfl; have hfz24_0 := blk_frozen BK112.out 0; have hfz24_1 := blk_frozen BK112.out 1; have hfz24_2 := blk_frozen BK112.out 2; have hfz24_3 := blk_frozen BK112.out 3; have hfz24_4 := blk_frozen BK112.out 4; have hcz25_0 : w22.cell? ⟨gb102, 0, none⟩ = some (.int .i64 0) := (blk_cell BK102.out 0).trans rfl; have hcz25_1 : w22.cell? ⟨gb102, 1, none⟩ = some (.int .i64 0) := (blk_cell BK102.out 1).trans rfl; have hcz25_2 : w22.cell? ⟨gb102, 2, none⟩ = some (.int .i64 0) := (blk_cell BK102.out 2).trans rfl; have hcz25_3 : w22.cell? ⟨gb102, 3, none⟩ = some (.int .i64 0) := (blk_cell BK102.out 3).trans rfl; have hcz25_4 : w22.cell? ⟨gb102, 4, none⟩ = some (.int .i64 0) := (blk_cell BK102.out 4).trans rfl; have hfz25_0 := blk_frozen BK102.out 0; have hfz25_1 := blk_frozen BK102.out 1; have hfz25_2 := blk_frozen BK102.out 2; have hfz25_3 := blk_frozen BK102.out 3; have hfz25_4 := blk_frozen BK102.out 4))
      refine bodyPost_ret (results_ctt rfl _ _ gb102 23 #[.int .i64 0, .int .i64 0, .int .i64 0, .int .i64 0, .int .i64 0] (0, 0) _ rfl (by (with_reducible repeat (first | refine blk_drewN ?_ _ | refine blk_drew ?_ | refine blk_alloc ?_ _)); refine blk_put (cs := #[.int .i64 0, .int .i64 0, .int .i64 0, .int .i64 0, .int .i64 0]) ?_ 4 _ rfl; (with_reducible repeat (first | refine blk_drewN ?_ _ | refine blk_drew ?_ | refine blk_alloc ?_ _)); refine blk_put (cs := #[.int .i64 0, .int .i64 0, .int .i64 0, .int .i64 0, .int .i64 0]) ?_ 3 _ rfl; (with_reducible repeat (first | refine blk_drewN ?_ _ | refine blk_drew ?_ | refine blk_alloc ?_ _)); refine blk_put (cs := #[.int .i64 0, .int .i64 0, .int .i64 0, .int .i64 0, .int .i64 0]) ?_ 2 _ rfl; (with_reducible repeat (first | refine blk_drewN ?_ _ | refine blk_drew ?_ | refine blk_alloc ?_ _)); refine blk_put (cs := #[.int .i64 0, .int .i64 0, .int .i64 0, .int .i64 0, .int .i64 0]) ?_ 1 _ rfl; (with_reducible repeat (first | refine blk_drewN ?_ _ | refine blk_drew ?_ | refine blk_alloc ?_ _)); refine blk_put (cs := #[.int .i64 0, .int .i64 0, .int .i64 0, .int .i64 0, .int .i64 0]) ?_ 0 _ rfl; (with_reducible repeat (first | refine blk_drewN ?_ _ | refine blk_drew ?_ | refine blk_alloc ?_ _)); refine blk_far ?_ NB102_112.out _; (with_reducible repeat (first | refine blk_drewN ?_ _ | refine blk_drew ?_ | refine blk_alloc ?_ _)); refine blk_far ?_ NB102_112.out _; (with_reducible repeat (first | refine blk_drewN ?_ _ | refine blk_drew ?_ | refine blk_alloc ?_ _)); refine blk_far ?_ NB102_112.out _; (with_reducible repeat (first | refine blk_drewN ?_ _ | refine blk_drew ?_ | refine blk_alloc ?_ _)); refine blk_far ?_ NB102_112.out _; (with_reducible repeat (first | refine blk_drewN ?_ _ | refine blk_drew ?_ | refine blk_alloc ?_ _)); refine blk_far ?_ NB102_112.out _; (with_reducible repeat (first | refine blk_drewN ?_ _ | refine blk_drew ?_ | refine blk_alloc ?_ _)); exact BK102.out) Try.underlying23 rfl (by kernel_rfl)) rfl ?_
      exact ⟨_, by first | rfl | (simp [errW_none, errW_some] <;> rfl) | (simp [*, errW_none, errW_some] <;> rfl), Kd.V_nil _ _ _ _ _, by repeat (first | (with_reducible first | exact HB.out | apply below_alloc | apply pw_below_drewN | apply below_drew1 | refine below_set ?_ GE102.out | refine below_set ?_ GE112.out) | exact HB.out)⟩
  · rw [if_neg c5] at H
    have c5b0 : (t111 == 0) = false := beq_eq_false_iff_ne.mpr c5
    have c5b1 : (t111 != 0) = true := bne_iff_ne.mpr c5
    simp only [Option.some.injEq, Prod.mk.injEq] at H
    obtain ⟨rfl, rfl, rfl, rfl, rfl, rfl, rfl⟩ := H
    go_enter Try.func13, Try.ntmps13
    go_wp2_with (first | ((with_reducible refine gate_dst (N := 6) rfl ?_); refine box_event ?hg (N := 6) ?hd (cs := #[.int .i64 0, .int .i64 0, .int .i64 0, .int .i64 0, .int .i64 0]) (t := 23) ?hr ?_; (case hd => rfl); (case hg => rfl); (case hr => first | (go_simp; done) | (go_simp; rfl)); intro gb102 hg w26 hbox hb; have n0_ := Aside0.mk (below_step (by repeat (first | (with_reducible first | exact HB.out | apply below_alloc | apply pw_below_drewN | apply below_drew1) | exact HB.out)) hb); have n1_ := Aside0.mk (hbox); have n2_ := Aside0.mk ((by rw [hg]; exact (below_size (by repeat (first | (with_reducible first | exact HB.out | apply below_alloc | apply pw_below_drewN | apply below_drew1) | exact HB.out))) : w.heap.size ≤ gb102)); have n3_ := Aside0.mk ((by rw [hg]; exact (below_size (by repeat (first | (with_reducible first | exact HB.out | apply below_alloc | apply pw_below_drewN | apply below_drew1) | exact HB.out))) : w.heap.size ≤ gb102)); clear HB; have HB := n0_; have BK102 := n1_; have GW102 := n2_; have GE102 := n3_; clear n0_ n1_ n2_ n3_; clear hb hbox hg) | ((with_reducible refine gate_callee (f := 11) rfl ?_); refine goesL_ (some 14) rfl rfl Try.func11 (by kernel_rfl) rfl #[.slice A0 l0.length c0] rfl (by (try simp only [List.map_toArray, List.map_cons, List.map_nil]); first | done | rfl | (simp only [List.length_drop, List.length_take]; rfl)) ?_; (with_reducible refine (seal_Open.calls _ _ l0 t103 t104 t105 t106 t107 t108 t111 _ ?side1 ?side2 A4.out).mono ?_); (case side1 => repeat (first | exact (Kd.C_below HR0.out HB.out) | (with_reducible refine Kd.C_alloc ?_ _) | (with_reducible refine Kd.C_drewN ?_ _) | (with_reducible refine Kd.C_drew ?_))); (case side2 => exact HC0.out); rintro e w27 ⟨v109, rfl, ho0, hb⟩; refine ⟨_, rfl, ?_⟩; have n0_ := Aside0.mk (Kd.V_lower (Kd.V_mono (ok' := fun k_ => (w.heap.size ≤ k_) ∧ k_ ≠ gb102) ho0 (fun k_ hk_ => ⟨(Nat.le_trans (below_size (by repeat (first | (with_reducible first | exact HB.out | apply below_alloc | apply pw_below_drewN | apply below_drew1 | refine below_set ?_ GE102.out) | exact HB.out))) hk_), (Kd.freshB (g := gb102) (o := .cells #[.int .i64 0, .int .i64 0, .int .i64 0, .int .i64 0, .int .i64 0] 23 (0, 0)) (by (with_reducible repeat (first | refine blk_drewN ?_ _ | refine blk_drew ?_ | refine blk_alloc ?_ _)); exact BK102.out) k_ hk_)⟩)) (below_size (by repeat (first | (with_reducible first | exact HB.out | apply below_alloc | apply pw_below_drewN | apply below_drew1 | refine below_set ?_ GE102.out) | exact HB.out)))); have n1_ := Aside0.mk (blk_below (g := gb102) (o := .cells #[.int .i64 0, .int .i64 0, .int .i64 0, .int .i64 0, .int .i64 0] 23 (0, 0)) (by (with_reducible repeat (first | refine blk_drewN ?_ _ | refine blk_drew ?_ | refine blk_alloc ?_ _)); exact BK102.out) hb); have n2_ := Aside0.mk (below_step (by repeat (first | (with_reducible first | exact HB.out | apply below_alloc | apply pw_below_drewN | apply below_drew1 | refine below_set ?_ GE102.out) | exact HB.out)) hb); clear BK102; clear HB; have HO110 := n0_; have BK102 := n1_; have HB := n2_; clear n0_ n1_ n2_; (try clear hb); (try clear hb2); (try clear hk); (try clear hi); (try clear ho0)) | ((with_reducible refine gate_dst (N := 9) rfl ?_); refine box_event ?hg (N := 9) ?hd (cs := #[.int .i64 0, .int .i64 0, .int .i64 0, .int .i64 0, .int .i64 0]) (t := 23) ?hr ?_; (case hd => rfl); (case hg => rfl); (case hr => first | (go_simp; done) | (go_simp; rfl)); intro gb112 hg w28 hbox hb; have n0_ := Aside0.mk (Kd.V_below (Kd.V_elderB (by (with_reducible repeat (first | apply Kd.V_alloc | apply Kd.V_drewN | apply Kd.V_drew)); exact HO110.out) gb112 (Nat.le_of_eq hg.symm)) hb); have n1_ := Aside0.mk (blk_below (g := gb102) (o := .cells #[.int .i64 0, .int .i64 0, .int .i64 0, .int .i64 0, .int .i64 0] 23 (0, 0)) (by (with_reducible repeat (first | refine blk_drewN ?_ _ | refine blk_drew ?_ | refine blk_alloc ?_ _)); exact BK102.out) hb); have n2_ := Aside0.mk (below_step (by repeat (first | (with_reducible first | exact HB.out | apply below_alloc | apply pw_below_drewN | apply below_drew1 | refine below_set ?_ GE102.out) | exact HB.out)) hb); have n3_ := Aside0.mk (hbox); have n4_ := Aside0.mk ((by rw [hg]; exact (below_size (by repeat (first | (with_reducible first | exact HB.out | apply below_alloc | apply pw_below_drewN | apply below_drew1 | refine below_set ?_ GE102.out) | exact HB.out))) : w.heap.size ≤ gb112)); have n5_ := Aside0.mk ((by rw [hg]; exact (below_size (by repeat (first | (with_reducible first | exact HB.out | apply below_alloc | apply pw_below_drewN | apply below_drew1 | refine below_set ?_ GE102.out) | exact HB.out))) : w.heap.size ≤ gb112)); have n6_ := Aside0.mk ((by rw [hg]; exact Nat.ne_of_lt (blk_lt (g := gb102) (o := .cells #[.int .i64 0, .int .i64 0, .int .i64 0, .int .i64 0, .int .i64 0] 23 (0, 0)) (by (with_reducible repeat (first | refine blk_drewN ?_ _ | refine blk_drew ?_ | refine blk_alloc ?_ _)); exact BK102.out)) : gb102 ≠ gb112)); have n7_ := Aside0.mk ((by rw [hg]; exact Nat.ne_of_gt (blk_lt (g := gb102) (o := .cells #[.int .i64 0, .int .i64 0, .int .i64 0, .int .i64 0, .int .i64 0] 23 (0, 0)) (by (with_reducible repeat (first | refine blk_drewN ?_ _ | refine blk_drew ?_ | refine blk_alloc ?_ _)); exact BK102.out)) : gb112 ≠ gb102)); clear HO110; clear BK102; clear HB; have HO110 := n0_; have BK102 := n1_; have HB := n2_; have BK112 := n3_; have GW112 := n4_; have GE112 := n5_; have NB102_112 := n6_; have NB112_102 := n7_; clear n0_ n1_ n2_ n3_ n4_ n5_ n6_ n7_; clear hb hbox hg; have hnb29 := NB112_102.out; have hnc29 := NB102_112.out; have hcz30_0 : w28.cell? ⟨gb112, 0, none⟩ = some (.int .i64 0) := (blk_cell BK112.out 0).trans rfl; have hcz30_1 : w28.cell? ⟨gb112, 1, none⟩ = some (.int .i64 0) := (blk_cell BK112.out 1).trans rfl; have hcz30_2 : w28.cell? ⟨gb112, 2, none⟩ = some (.int .i64 0) := (blk_cell BK112.out 2).trans rfl; have hcz30_3 : w28.cell? ⟨gb112, 3, none⟩ = some (.int .i64 0) := (blk_cell BK112.out 3).trans rfl; have hcz30_4 : w28.cell? ⟨gb112, 4, none⟩ = some (.int .i64 0) := (blk_cell BK112.out 4).trans rfl; have hfz30_0 := blk_frozen BK112.out 0; have hfz30_1 := blk_frozen BK112.out 1; have hfz30_2 := blk_frozen BK112.out 2; have hfz30_3 := blk_frozen BK112.out 3; have hfz30_4 := blk_frozen BK112.out 4; have hcz31_0 : w28.cell? ⟨gb102, 0, none⟩ = some (.int .i64 0) := (blk_cell BK102.out 0).trans rfl; have hcz31_1 : w28.cell? ⟨gb102, 1, none⟩ = some (.int .i64 0) := (blk_cell BK102.out 1).trans rfl; have hcz31_2 : w28.cell? ⟨gb102, 2, none⟩ = some (.int .i64 0) := (blk_cell BK102.out 2).trans rfl; have hcz31_3 : w28.cell? ⟨gb102, 3, none⟩ = some (.int .i64 0) := (blk_cell BK102.out 3).trans rfl; have hcz31_4 : w28.cell? ⟨gb102, 4, none⟩ = some (.int .i64 0) := (blk_cell BK102.out 4).trans rfl; have hfz31_0 := blk_frozen BK102.out 0; have hfz31_1 := blk_frozen BK102.out 1; have hfz31_2 := blk_frozen BK102.out 2; have hfz31_3 := blk_frozen BK102.out 3; have hfz31_4 := blk_frozen BK102.out 4))
    refine bodyPost_ret (results_ctt rfl _ _ gb102 23 #[.int .i64 0, .int .i64 0, .int .i64 0, .int .i64 0, .int .i64 0] (0, 0) _ rfl (by (with_reducible repeat (first | refine blk_drewN ?_ _ | refine blk_drew ?_ | refine blk_alloc ?_ _)); refine blk_put (cs := #[.int .i64 0, .int .i64 0, .int .i64 0, .int .i64 0, .int .i64 0]) ?_ 4 _ rfl; (with_reducible repeat (first | refine blk_drewN ?_ _ | refine blk_drew ?_ | refine blk_alloc ?_ _)); refine blk_put (cs := #[.int .i64 0, .int .i64 0, .int .i64 0, .int .i64 0, .int .i64 0]) ?_ 3 _ rfl; (with_reducible repeat (first | refine blk_drewN ?_ _ | refine blk_drew ?_ | refine blk_alloc ?_ _)); refine blk_put (cs := #[.int .i64 0, .int .i64 0, .int .i64 0, .int .i64 0, .int .i64 0]) ?_ 2 _ rfl; (with_reducible repeat (first | refine blk_drewN ?_ _ | refine blk_drew ?_ | refine blk_alloc ?_ _)); refine blk_put (cs := #[.int .i64 0, .int .i64 0, .int .i64 0, .int .i64 0, .int .i64 0]) ?_ 1 _ rfl; (with_reducible repeat (first | refine blk_drewN ?_ _ | refine blk_drew ?_ | refine blk_alloc ?_ _)); refine blk_put (cs := #[.int .i64 0, .int .i64 0, .int .i64 0, .int .i64 0, .int .i64 0]) ?_ 0 _ rfl; (with_reducible repeat (first | refine blk_drewN ?_ _ | refine blk_drew ?_ | refine blk_alloc ?_ _)); refine blk_far ?_ NB102_112.out _; (with_reducible repeat (first | refine blk_drewN ?_ _ | refine blk_drew ?_ | refine blk_alloc ?_ _)); refine blk_far ?_ NB102_112.out _; (with_reducible repeat (first | refine blk_drewN ?_ _ | refine blk_drew ?_ | refine blk_alloc ?_ _)); refine blk_far ?_ NB102_112.out _; (with_reducible repeat (first | refine blk_drewN ?_ _ | refine blk_drew ?_ | refine blk_alloc ?_ _)); refine blk_far ?_ NB102_112.out _; (with_reducible repeat (first | refine blk_drewN ?_ _ | refine blk_drew ?_ | refine blk_alloc ?_ _)); refine blk_far ?_ NB102_112.out _; (with_reducible repeat (first | refine blk_drewN ?_ _ | refine blk_drew ?_ | refine blk_alloc ?_ _)); exact BK102.out) Try.underlying23 rfl (by kernel_rfl)) rfl ?_
    exact ⟨_, by first | rfl | (simp [errW_none, errW_some] <;> rfl) | (simp [*, errW_none, errW_some] <;> rfl), Kd.V_nil _ _ _ _ _, by repeat (first | (with_reducible first | exact HB.out | apply below_alloc | apply pw_below_drewN | apply below_drew1 | refine below_set ?_ GE102.out | refine below_set ?_ GE112.out) | exact HB.out)⟩

/-! ### GIVEN cambiumlaw04_shown: function 8 -/
/-- The document's example, sealed. -/
def shownB : List Int := [19, 74, 180, 115] ++ ([3, 0, 0, 5, 0, 1, 0, 0, 0, 0, 2, 0, 0, 0, 0, 0, 7] ++ List.replicate 235 0)
def shownY : List Int := 7 :: List.replicate 235 0
theorem shownB_len : shownB.length = 256 := by decide +kernel
theorem shownY_len : shownY.length = 236 := by decide +kernel
theorem shownB_mid : (shownB.take 22).drop 4 = [3, 0, 0, 5, 0, 1, 0, 0, 0, 0, 2, 0, 0, 0, 0, 0, 7, 0] := by decide +kernel
theorem shown_seal : seal_Seal.f 3 5 1 0 2 [7] = some (shownB, 0) := by decide +kernel
theorem shown_open : seal_Open.f shownB = some (3, 5, 1, 0, 2, shownY, 0) := by kernel_rfl
theorem shown_check : seal_Check.f shownB 3 6 = some (0, 0, 0, 0, 0, [], 3) := by kernel_rfl
def cambiumlaw04_shown.f : Option Bool := some true
set_option maxHeartbeats 2000000 in
theorem cambiumlaw04_shown.calls (r : Bool) (w : World) (h : cambiumlaw04_shown.f = some r) :
    Calls Try.prog 8 #[] w fun e w' => e = .returned (.bool r) ∧ Below w.heap.size w w' := by
  obtain rfl : true = r := by injection h
  clear h
  have S1 := Aside0.mk shown_seal
  have S2 := Aside0.mk shown_open
  have S3 := Aside0.mk shown_check
  have L1 := Aside0.mk shownB_len
  have L2 := Aside0.mk shownY_len
  have M1 := Aside0.mk shownB_mid
  have Y0 := Aside0.mk (show rd shownY 0 = 7 from rfl)
  generalize shownB = B at *
  generalize shownY = Y at *
  have HB0 := Aside0.mk (((Below.refl w.heap.size w).alloc (Nat.le_refl _) (.cells #[.int .i64 3, .int .i64 5, .int .i64 1, .int .i64 0, .int .i64 2] 23)).alloc (by simp) (.cells #[.int .u8 7] 5))
  have HX0 := Aside0.mk (heap_alloc2_old w (.cells #[.int .i64 3, .int .i64 5, .int .i64 1, .int .i64 0, .int .i64 2] 23) (.cells #[.int .u8 7] 5))
  have hr0 := Own.marked_reads (w.alloc (.cells #[.int .i64 3, .int .i64 5, .int .i64 1, .int .i64 0, .int .i64 2] 23)) 5 [7] _ (0, 0) rfl (by decide)
  rw [show (w.alloc (.cells #[.int .i64 3, .int .i64 5, .int .i64 1, .int .i64 0, .int .i64 2] 23)).heap.size = w.heap.size + 1 from by simp] at hr0
  have HR0 := Aside0.mk hr0
  clear hr0
  go_enter Try.func8, Try.ntmps8
  go_wp2_with fail
  refine (seal_Seal.calls 3 5 1 0 2 _ 1 [7] B 0 _ HR0.out (by decide) S1.out).mono ?_
  rintro e w1 ⟨v1, rfl, ho, hb⟩
  obtain ⟨A1, c1, he1, hc1, hC1⟩ := Kd.R_reads ho
  subst he1
  have HB1 := Aside0.mk (below_step HB0.out hb)
  have HX1 := Aside0.mk (blk_below HX0.out hb)
  have HR1 := Aside0.mk hC1
  have HC1 := Aside0.mk hc1
  clear ho hb hc1 hC1 HB0 HX0 HR0
  have hl1 : ((B.length : Int) != 256) = false := by rw [L1.out]; rfl
  go_wp2_with fail
  refine (seal_Open.calls A1 c1 B 3 5 1 0 2 Y 0 _ HR1.out HC1.out S2.out).mono ?_
  rintro e w2 ⟨v2, rfl, ho, hb⟩
  obtain ⟨A2, c2, he2⟩ := Kd.V_slice ho
  subst he2
  have HB2 := Aside0.mk ((below_step HB1.out hb).alloc (below_step HB1.out hb).size (.cells #[.int .i64 3, .int .i64 5, .int .i64 1, .int .i64 0, .int .i64 2] 23))
  have HX2 := Aside0.mk ((heap_alloc_old w2 (.cells #[.int .i64 3, .int .i64 5, .int .i64 1, .int .i64 0, .int .i64 2] 23) (blk_lt (blk_below HX1.out hb))).trans (blk_below HX1.out hb))
  have HG2 := Aside0.mk (heap_alloc_new w2 (.cells #[.int .i64 3, .int .i64 5, .int .i64 1, .int .i64 0, .int .i64 2] 23))
  have HR2 := Aside0.mk (Kd.C_alloc (Kd.C_below HR1.out hb) (.cells #[.int .i64 3, .int .i64 5, .int .i64 1, .int .i64 0, .int .i64 2] 23))
  have HV2 := Aside0.mk (Kd.C_alloc (Kd.V_reads' ho).2.2 (.cells #[.int .i64 3, .int .i64 5, .int .i64 1, .int .i64 0, .int .i64 2] 23))
  clear ho hb HB1 HX1 HR1 hl1
  go_wp2_with fail
  refine (seal_Check.calls A1 c1 B 3 6 0 0 0 0 0 [] 3 _ HR2.out HC1.out S3.out).mono ?_
  rintro e w3 ⟨v3, rfl, ho, hb⟩
  obtain ⟨A3, c3, he3⟩ := Kd.V_slice ho
  subst he3
  have HB3 := Aside0.mk ((below_step HB2.out hb).alloc (below_step HB2.out hb).size (.cells #[.int .i64 0, .int .i64 0, .int .i64 0, .int .i64 0, .int .i64 0] 23))
  have HX3 := Aside0.mk (blk_below HX2.out hb)
  have HG3 := Aside0.mk (blk_below HG2.out hb)
  have HR3 := Aside0.mk (Kd.C_alloc (Kd.C_below HR2.out hb) (.cells #[.int .i64 0, .int .i64 0, .int .i64 0, .int .i64 0, .int .i64 0] 23))
  have HV3 := Aside0.mk (Kd.C_below HV2.out hb)
  clear ho hb HB2 HX2 HG2 HR2 HV2
  generalize w2.heap.size = g2 at *
  have LX := blk_lt HX3.out
  have LG := blk_lt HG3.out
  have hx : ∀ i, i < 5 → w3.cell? ⟨w.heap.size, i, none⟩ = (#[.int .i64 3, .int .i64 5, .int .i64 1, .int .i64 0, .int .i64 2] : Array Value)[i]? := fun i _ => blk_cell HX3.out i
  have hg : ∀ i, i < 5 → w3.cell? ⟨g2, i, none⟩ = (#[.int .i64 3, .int .i64 5, .int .i64 1, .int .i64 0, .int .i64 2] : Array Value)[i]? := fun i _ => blk_cell HG3.out i
  have x0 := hx 0 (by omega)
  have x1 := hx 1 (by omega)
  have x2 := hx 2 (by omega)
  have x3 := hx 3 (by omega)
  have x4 := hx 4 (by omega)
  have g0 := hg 0 (by omega)
  have g1 := hg 1 (by omega)
  have g2_ := hg 2 (by omega)
  have g3 := hg 3 (by omega)
  have g4 := hg 4 (by omega)
  rw [show (#[.int .i64 3, .int .i64 5, .int .i64 1, .int .i64 0, .int .i64 2] : Array Value)[0]? = some (.int .i64 3) from rfl] at x0 g0
  rw [show (#[.int .i64 3, .int .i64 5, .int .i64 1, .int .i64 0, .int .i64 2] : Array Value)[1]? = some (.int .i64 5) from rfl] at x1 g1
  rw [show (#[.int .i64 3, .int .i64 5, .int .i64 1, .int .i64 0, .int .i64 2] : Array Value)[2]? = some (.int .i64 1) from rfl] at x2 g2_
  rw [show (#[.int .i64 3, .int .i64 5, .int .i64 1, .int .i64 0, .int .i64 2] : Array Value)[3]? = some (.int .i64 0) from rfl] at x3 g3
  rw [show (#[.int .i64 3, .int .i64 5, .int .i64 1, .int .i64 0, .int .i64 2] : Array Value)[4]? = some (.int .i64 2) from rfl] at x4 g4
  have hbl := L1.out
  have hbc := HC1.out
  obtain ⟨i0, hi0, _, hs0, _⟩ := info_parts info5
  have hcut0 := cut_mid (P := Try.prog) 24 5 .i64 .i64 Try.underlying24 hi0 1 hs0 A1 B.length c1 4 22 (by omega) (by omega) (by omega) hbc
  have hr0 := Kd.C_mid (lo := 4) (hi := 22) (c := c1) HR3.out (by omega) (by omega) hbc
  have hA0 : (if c1 = (4 : Int).toNat then A1 else A1.map (·.add ((4 : Int).toNat * 1))) = (if c1 = 4 then A1 else A1.map (·.add (4 * (Kd.int IntKind.u8).sz))) := rfl
  rw [hA0] at hcut0
  generalize (if c1 = 4 then A1 else A1.map (·.add (4 * (Kd.int IntKind.u8).sz))) = A4 at *
  rw [M1.out] at hr0
  have hcut : ∀ W : World, (Instr.slice 24 (.slice A1 B.length c1) (some (.int .i64 4)) (some (.int .i64 22)) none).run Try.prog W = .ok (.slice A4 18 (c1 - 4)) W := hcut0
  have e1 : strOfNums [3, 0, 0, 5, 0, 1, 0, 0, 0, 0, 2, 0, 0, 0, 0, 0, 7, 0] = ⟨#[3, 0, 0, 5, 0, 1, 0, 0, 0, 0, 2, 0, 0, 0, 0, 0, 7, 0]⟩ := by decide +kernel
  have hstr : (convert 24 9 (.slice A4 18 (c1 - 4))).run Try.prog (w3.alloc (.cells #[.int .i64 0, .int .i64 0, .int .i64 0, .int .i64 0, .int .i64 0] 23)) = .ok (.string ⟨#[3, 0, 0, 5, 0, 1, 0, 0, 0, 0, 2, 0, 0, 0, 0, 0, 7, 0]⟩) (w3.alloc (.cells #[.int .i64 0, .int .i64 0, .int .i64 0, .int .i64 0, .int .i64 0] 23)) := by rw [← e1]; exact Kd.C_string (c := c1 - 4) (P := Try.prog) Try.underlying24 Try.underlying5 Try.underlying9 hr0
  have hyl := L2.out
  obtain ⟨ad, hAd, hcell⟩ := Kd.at_int HV3.out (0 : Int) (by omega) (by omega)
  subst hAd
  rw [Y0.out, show (0 : Int).toNat = 0 from rfl, show ad.add 0 = ad from by simp [Addr.add]] at hcell
  have LA := block_lt_of_cell hcell
  have hy1 : ((Y.length : Int) == 236) = true := by rw [hyl]; rfl
  have hpos : 0 < Y.length := by omega
  have hbm : 22 ≤ c1 := by omega
  clear hx hg hi0 hs0 hcut0 hA0 hr0 e1 hbl hbc hyl
  go_wp2
  go_ret
  exact ⟨rfl, HB3.out⟩
/-! ### end of GIVEN -/
/-! ### cambiumref04_May: function 18 -/
def cambiumref04_May.f (a0_0 : Int) (a0_1 : Int) (a0_2 : Int) (a0_3 : Int) (a0_4 : Int) : Option (Bool) := if a0_0 ≥ 1 then (if a0_0 ≤ 6 then (if a0_3 ≥ 0 then (if a0_3 ≤ 8 then (if a0_1 ≥ 0 then (if a0_1 < 2048 then (if a0_2 ≥ 0 then (if a0_2 ≤ 65535 then (if a0_4 ≥ 0 then (some (decide (a0_4 ≤ 1099511627775))) else (some false)) else (some false)) else (some false)) else (some false)) else (some false)) else (some false)) else (some false)) else (some false)) else (some false)
set_option maxHeartbeats 8000000 in
set_option maxRecDepth 100000 in
theorem cambiumref04_May.calls (a0_0 : Int) (a0_1 : Int) (a0_2 : Int) (a0_3 : Int) (a0_4 : Int) (r : Bool) (w : World) (h : cambiumref04_May.f a0_0 a0_1 a0_2 a0_3 a0_4 = some r) :
    Calls Try.prog 18 #[.agg #[.int .i64 a0_0, .int .i64 a0_1, .int .i64 a0_2, .int .i64 a0_3, .int .i64 a0_4]] w fun e w' => e = .returned (.bool r) ∧ Below w.heap.size w w' := by
  have hu23 := Try.underlying23
  have HB := Aside0.mk (Below.refl w.heap.size w)
  have H : (if a0_0 ≥ 1 then (if a0_0 ≤ 6 then (if a0_3 ≥ 0 then (if a0_3 ≤ 8 then (if a0_1 ≥ 0 then (if a0_1 < 2048 then (if a0_2 ≥ 0 then (if a0_2 ≤ 65535 then (if a0_4 ≥ 0 then (some (decide (a0_4 ≤ 1099511627775))) else (some false)) else (some false)) else (some false)) else (some false)) else (some false)) else (some false)) else (some false)) else (some false)) else (some false)) = some r := h
  clear h
  by_cases c2 : a0_0 ≥ 1
  · rw [if_pos c2] at H
    have c2b0 : decide (1 ≤ a0_0) = true := decide_eq_true c2
    clear c2
    by_cases c3 : a0_0 ≤ 6
    · rw [if_pos c3] at H
      have c3b0 : decide (a0_0 ≤ 6) = true := decide_eq_true c3
      clear c3
      by_cases c4 : a0_3 ≥ 0
      · rw [if_pos c4] at H
        have c4b0 : decide (0 ≤ a0_3) = true := decide_eq_true c4
        clear c4
        by_cases c5 : a0_3 ≤ 8
        · rw [if_pos c5] at H
          have c5b0 : decide (a0_3 ≤ 8) = true := decide_eq_true c5
          clear c5
          by_cases c6 : a0_1 ≥ 0
          · rw [if_pos c6] at H
            have c6b0 : decide (0 ≤ a0_1) = true := decide_eq_true c6
            clear c6
            by_cases c7 : a0_1 < 2048
            · rw [if_pos c7] at H
              have c7b0 : decide (a0_1 < 2048) = true := decide_eq_true c7
              clear c7
              by_cases c8 : a0_2 ≥ 0
              · rw [if_pos c8] at H
                have c8b0 : decide (0 ≤ a0_2) = true := decide_eq_true c8
                clear c8
                by_cases c9 : a0_2 ≤ 65535
                · rw [if_pos c9] at H
                  have c9b0 : decide (a0_2 ≤ 65535) = true := decide_eq_true c9
                  clear c9
                  by_cases c10 : a0_4 ≥ 0
                  · rw [if_pos c10] at H
                    have c10b0 : decide (0 ≤ a0_4) = true := decide_eq_true c10
                    clear c10
                    obtain rfl := Option.some.inj H
                    go_enter Try.func18, Try.ntmps18
                    go_wp2_with (first | ((with_reducible refine gate_dst (N := 1) rfl ?_); refine box_event ?hg (N := 1) ?hd (cs := #[.int .i64 a0_0, .int .i64 a0_1, .int .i64 a0_2, .int .i64 a0_3, .int .i64 a0_4]) (t := 23) ?hr ?_; (case hd => rfl); (case hg => rfl); (case hr => first | (go_simp; done) | (go_simp; rfl)); intro gb113 hg w11 hbox hb; have n0_ := Aside0.mk (below_step (by repeat (first | (with_reducible first | exact HB.out | apply below_alloc | apply pw_below_drewN | apply below_drew1) | exact HB.out)) hb); have n1_ := Aside0.mk (hbox); have n2_ := Aside0.mk ((by rw [hg]; exact (below_size (by repeat (first | (with_reducible first | exact HB.out | apply below_alloc | apply pw_below_drewN | apply below_drew1) | exact HB.out))) : w.heap.size ≤ gb113)); have n3_ := Aside0.mk ((by rw [hg]; exact (below_size (by repeat (first | (with_reducible first | exact HB.out | apply below_alloc | apply pw_below_drewN | apply below_drew1) | exact HB.out))) : w.heap.size ≤ gb113)); clear HB; have HB := n0_; have BK113 := n1_; have GW113 := n2_; have GE113 := n3_; clear n0_ n1_ n2_ n3_; clear hb hbox hg; have hcz12_0 : w11.cell? ⟨gb113, 0, none⟩ = some (.int .i64 a0_0) := (blk_cell BK113.out 0).trans rfl; have hcz12_1 : w11.cell? ⟨gb113, 1, none⟩ = some (.int .i64 a0_1) := (blk_cell BK113.out 1).trans rfl; have hcz12_2 : w11.cell? ⟨gb113, 2, none⟩ = some (.int .i64 a0_2) := (blk_cell BK113.out 2).trans rfl; have hcz12_3 : w11.cell? ⟨gb113, 3, none⟩ = some (.int .i64 a0_3) := (blk_cell BK113.out 3).trans rfl; have hcz12_4 : w11.cell? ⟨gb113, 4, none⟩ = some (.int .i64 a0_4) := (blk_cell BK113.out 4).trans rfl; have hfz12_0 := blk_frozen BK113.out 0; have hfz12_1 := blk_frozen BK113.out 1; have hfz12_2 := blk_frozen BK113.out 2; have hfz12_3 := blk_frozen BK113.out 3; have hfz12_4 := blk_frozen BK113.out 4))
                    go_ret
                    exact ⟨by first | rfl | (simp [errW_none, errW_some] <;> rfl) | (simp [*, errW_none, errW_some] <;> rfl), by repeat (first | (with_reducible first | exact HB.out | apply below_alloc | apply pw_below_drewN | apply below_drew1 | refine below_set ?_ GE113.out) | exact HB.out)⟩
                  · rw [if_neg c10] at H
                    have c10b0 : decide (0 ≤ a0_4) = false := decide_eq_false c10
                    clear c10
                    obtain rfl := Option.some.inj H
                    go_enter Try.func18, Try.ntmps18
                    go_wp2_with (first | ((with_reducible refine gate_dst (N := 1) rfl ?_); refine box_event ?hg (N := 1) ?hd (cs := #[.int .i64 a0_0, .int .i64 a0_1, .int .i64 a0_2, .int .i64 a0_3, .int .i64 a0_4]) (t := 23) ?hr ?_; (case hd => rfl); (case hg => rfl); (case hr => first | (go_simp; done) | (go_simp; rfl)); intro gb113 hg w13 hbox hb; have n0_ := Aside0.mk (below_step (by repeat (first | (with_reducible first | exact HB.out | apply below_alloc | apply pw_below_drewN | apply below_drew1) | exact HB.out)) hb); have n1_ := Aside0.mk (hbox); have n2_ := Aside0.mk ((by rw [hg]; exact (below_size (by repeat (first | (with_reducible first | exact HB.out | apply below_alloc | apply pw_below_drewN | apply below_drew1) | exact HB.out))) : w.heap.size ≤ gb113)); have n3_ := Aside0.mk ((by rw [hg]; exact (below_size (by repeat (first | (with_reducible first | exact HB.out | apply below_alloc | apply pw_below_drewN | apply below_drew1) | exact HB.out))) : w.heap.size ≤ gb113)); clear HB; have HB := n0_; have BK113 := n1_; have GW113 := n2_; have GE113 := n3_; clear n0_ n1_ n2_ n3_; clear hb hbox hg; have hcz14_0 : w13.cell? ⟨gb113, 0, none⟩ = some (.int .i64 a0_0) := (blk_cell BK113.out 0).trans rfl; have hcz14_1 : w13.cell? ⟨gb113, 1, none⟩ = some (.int .i64 a0_1) := (blk_cell BK113.out 1).trans rfl; have hcz14_2 : w13.cell? ⟨gb113, 2, none⟩ = some (.int .i64 a0_2) := (blk_cell BK113.out 2).trans rfl; have hcz14_3 : w13.cell? ⟨gb113, 3, none⟩ = some (.int .i64 a0_3) := (blk_cell BK113.out 3).trans rfl; have hcz14_4 : w13.cell? ⟨gb113, 4, none⟩ = some (.int .i64 a0_4) := (blk_cell BK113.out 4).trans rfl; have hfz14_0 := blk_frozen BK113.out 0; have hfz14_1 := blk_frozen BK113.out 1; have hfz14_2 := blk_frozen BK113.out 2; have hfz14_3 := blk_frozen BK113.out 3; have hfz14_4 := blk_frozen BK113.out 4))
                    go_ret
                    exact ⟨by first | rfl | (simp [errW_none, errW_some] <;> rfl) | (simp [*, errW_none, errW_some] <;> rfl), by repeat (first | (with_reducible first | exact HB.out | apply below_alloc | apply pw_below_drewN | apply below_drew1 | refine below_set ?_ GE113.out) | exact HB.out)⟩
                · rw [if_neg c9] at H
                  have c9b0 : decide (a0_2 ≤ 65535) = false := decide_eq_false c9
                  clear c9
                  obtain rfl := Option.some.inj H
                  go_enter Try.func18, Try.ntmps18
                  go_wp2_with (first | ((with_reducible refine gate_dst (N := 1) rfl ?_); refine box_event ?hg (N := 1) ?hd (cs := #[.int .i64 a0_0, .int .i64 a0_1, .int .i64 a0_2, .int .i64 a0_3, .int .i64 a0_4]) (t := 23) ?hr ?_; (case hd => rfl); (case hg => rfl); (case hr => first | (go_simp; done) | (go_simp; rfl)); intro gb113 hg w15 hbox hb; have n0_ := Aside0.mk (below_step (by repeat (first | (with_reducible first | exact HB.out | apply below_alloc | apply pw_below_drewN | apply below_drew1) | exact HB.out)) hb); have n1_ := Aside0.mk (hbox); have n2_ := Aside0.mk ((by rw [hg]; exact (below_size (by repeat (first | (with_reducible first | exact HB.out | apply below_alloc | apply pw_below_drewN | apply below_drew1) | exact HB.out))) : w.heap.size ≤ gb113)); have n3_ := Aside0.mk ((by rw [hg]; exact (below_size (by repeat (first | (with_reducible first | exact HB.out | apply below_alloc | apply pw_below_drewN | apply below_drew1) | exact HB.out))) : w.heap.size ≤ gb113)); clear HB; have HB := n0_; have BK113 := n1_; have GW113 := n2_; have GE113 := n3_; clear n0_ n1_ n2_ n3_; clear hb hbox hg; have hcz16_0 : w15.cell? ⟨gb113, 0, none⟩ = some (.int .i64 a0_0) := (blk_cell BK113.out 0).trans rfl; have hcz16_1 : w15.cell? ⟨gb113, 1, none⟩ = some (.int .i64 a0_1) := (blk_cell BK113.out 1).trans rfl; have hcz16_2 : w15.cell? ⟨gb113, 2, none⟩ = some (.int .i64 a0_2) := (blk_cell BK113.out 2).trans rfl; have hcz16_3 : w15.cell? ⟨gb113, 3, none⟩ = some (.int .i64 a0_3) := (blk_cell BK113.out 3).trans rfl; have hcz16_4 : w15.cell? ⟨gb113, 4, none⟩ = some (.int .i64 a0_4) := (blk_cell BK113.out 4).trans rfl; have hfz16_0 := blk_frozen BK113.out 0; have hfz16_1 := blk_frozen BK113.out 1; have hfz16_2 := blk_frozen BK113.out 2; have hfz16_3 := blk_frozen BK113.out 3; have hfz16_4 := blk_frozen BK113.out 4))
                  go_ret
                  exact ⟨by first | rfl | (simp [errW_none, errW_some] <;> rfl) | (simp [*, errW_none, errW_some] <;> rfl), by repeat (first | (with_reducible first | exact HB.out | apply below_alloc | apply pw_below_drewN | apply below_drew1 | refine below_set ?_ GE113.out) | exact HB.out)⟩
              · rw [if_neg c8] at H
                have c8b0 : decide (0 ≤ a0_2) = false := decide_eq_false c8
                clear c8
                obtain rfl := Option.some.inj H
                go_enter Try.func18, Try.ntmps18
                go_wp2_with (first | ((with_reducible refine gate_dst (N := 1) rfl ?_); refine box_event ?hg (N := 1) ?hd (cs := #[.int .i64 a0_0, .int .i64 a0_1, .int .i64 a0_2, .int .i64 a0_3, .int .i64 a0_4]) (t := 23) ?hr ?_; (case hd => rfl); (case hg => rfl); (case hr => first | (go_simp; done) | (go_simp; rfl)); intro gb113 hg w17 hbox hb; have n0_ := Aside0.mk (below_step (by repeat (first | (with_reducible first | exact HB.out | apply below_alloc | apply pw_below_drewN | apply below_drew1) | exact HB.out)) hb); have n1_ := Aside0.mk (hbox); have n2_ := Aside0.mk ((by rw [hg]; exact (below_size (by repeat (first | (with_reducible first | exact HB.out | apply below_alloc | apply pw_below_drewN | apply below_drew1) | exact HB.out))) : w.heap.size ≤ gb113)); have n3_ := Aside0.mk ((by rw [hg]; exact (below_size (by repeat (first | (with_reducible first | exact HB.out | apply below_alloc | apply pw_below_drewN | apply below_drew1) | exact HB.out))) : w.heap.size ≤ gb113)); clear HB; have HB := n0_; have BK113 := n1_; have GW113 := n2_; have GE113 := n3_; clear n0_ n1_ n2_ n3_; clear hb hbox hg; have hcz18_0 : w17.cell? ⟨gb113, 0, none⟩ = some (.int .i64 a0_0) := (blk_cell BK113.out 0).trans rfl; have hcz18_1 : w17.cell? ⟨gb113, 1, none⟩ = some (.int .i64 a0_1) := (blk_cell BK113.out 1).trans rfl; have hcz18_2 : w17.cell? ⟨gb113, 2, none⟩ = some (.int .i64 a0_2) := (blk_cell BK113.out 2).trans rfl; have hcz18_3 : w17.cell? ⟨gb113, 3, none⟩ = some (.int .i64 a0_3) := (blk_cell BK113.out 3).trans rfl; have hcz18_4 : w17.cell? ⟨gb113, 4, none⟩ = some (.int .i64 a0_4) := (blk_cell BK113.out 4).trans rfl; have hfz18_0 := blk_frozen BK113.out 0; have hfz18_1 := blk_frozen BK113.out 1; have hfz18_2 := blk_frozen BK113.out 2; have hfz18_3 := blk_frozen BK113.out 3; have hfz18_4 := blk_frozen BK113.out 4))
                go_ret
                exact ⟨by first | rfl | (simp [errW_none, errW_some] <;> rfl) | (simp [*, errW_none, errW_some] <;> rfl), by repeat (first | (with_reducible first | exact HB.out | apply below_alloc | apply pw_below_drewN | apply below_drew1 | refine below_set ?_ GE113.out) | exact HB.out)⟩
            · rw [if_neg c7] at H
              have c7b0 : decide (a0_1 < 2048) = false := decide_eq_false c7
              clear c7
              obtain rfl := Option.some.inj H
              go_enter Try.func18, Try.ntmps18
              go_wp2_with (first | ((with_reducible refine gate_dst (N := 1) rfl ?_); refine box_event ?hg (N := 1) ?hd (cs := #[.int .i64 a0_0, .int .i64 a0_1, .int .i64 a0_2, .int .i64 a0_3, .int .i64 a0_4]) (t := 23) ?hr ?_; (case hd => rfl); (case hg => rfl); (case hr => first | (go_simp; done) | (go_simp; rfl)); intro gb113 hg w19 hbox hb; have n0_ := Aside0.mk (below_step (by repeat (first | (with_reducible first | exact HB.out | apply below_alloc | apply pw_below_drewN | apply below_drew1) | exact HB.out)) hb); have n1_ := Aside0.mk (hbox); have n2_ := Aside0.mk ((by rw [hg]; exact (below_size (by repeat (first | (with_reducible first | exact HB.out | apply below_alloc | apply pw_below_drewN | apply below_drew1) | exact HB.out))) : w.heap.size ≤ gb113)); have n3_ := Aside0.mk ((by rw [hg]; exact (below_size (by repeat (first | (with_reducible first | exact HB.out | apply below_alloc | apply pw_below_drewN | apply below_drew1) | exact HB.out))) : w.heap.size ≤ gb113)); clear HB; have HB := n0_; have BK113 := n1_; have GW113 := n2_; have GE113 := n3_; clear n0_ n1_ n2_ n3_; clear hb hbox hg; have hcz20_0 : w19.cell? ⟨gb113, 0, none⟩ = some (.int .i64 a0_0) := (blk_cell BK113.out 0).trans rfl; have hcz20_1 : w19.cell? ⟨gb113, 1, none⟩ = some (.int .i64 a0_1) := (blk_cell BK113.out 1).trans rfl; have hcz20_2 : w19.cell? ⟨gb113, 2, none⟩ = some (.int .i64 a0_2) := (blk_cell BK113.out 2).trans rfl; have hcz20_3 : w19.cell? ⟨gb113, 3, none⟩ = some (.int .i64 a0_3) := (blk_cell BK113.out 3).trans rfl; have hcz20_4 : w19.cell? ⟨gb113, 4, none⟩ = some (.int .i64 a0_4) := (blk_cell BK113.out 4).trans rfl; have hfz20_0 := blk_frozen BK113.out 0; have hfz20_1 := blk_frozen BK113.out 1; have hfz20_2 := blk_frozen BK113.out 2; have hfz20_3 := blk_frozen BK113.out 3; have hfz20_4 := blk_frozen BK113.out 4))
              go_ret
              exact ⟨by first | rfl | (simp [errW_none, errW_some] <;> rfl) | (simp [*, errW_none, errW_some] <;> rfl), by repeat (first | (with_reducible first | exact HB.out | apply below_alloc | apply pw_below_drewN | apply below_drew1 | refine below_set ?_ GE113.out) | exact HB.out)⟩
          · rw [if_neg c6] at H
            have c6b0 : decide (0 ≤ a0_1) = false := decide_eq_false c6
            clear c6
            obtain rfl := Option.some.inj H
            go_enter Try.func18, Try.ntmps18
            go_wp2_with (first | ((with_reducible refine gate_dst (N := 1) rfl ?_); refine box_event ?hg (N := 1) ?hd (cs := #[.int .i64 a0_0, .int .i64 a0_1, .int .i64 a0_2, .int .i64 a0_3, .int .i64 a0_4]) (t := 23) ?hr ?_; (case hd => rfl); (case hg => rfl); (case hr => first | (go_simp; done) | (go_simp; rfl)); intro gb113 hg w21 hbox hb; have n0_ := Aside0.mk (below_step (by repeat (first | (with_reducible first | exact HB.out | apply below_alloc | apply pw_below_drewN | apply below_drew1) | exact HB.out)) hb); have n1_ := Aside0.mk (hbox); have n2_ := Aside0.mk ((by rw [hg]; exact (below_size (by repeat (first | (with_reducible first | exact HB.out | apply below_alloc | apply pw_below_drewN | apply below_drew1) | exact HB.out))) : w.heap.size ≤ gb113)); have n3_ := Aside0.mk ((by rw [hg]; exact (below_size (by repeat (first | (with_reducible first | exact HB.out | apply below_alloc | apply pw_below_drewN | apply below_drew1) | exact HB.out))) : w.heap.size ≤ gb113)); clear HB; have HB := n0_; have BK113 := n1_; have GW113 := n2_; have GE113 := n3_; clear n0_ n1_ n2_ n3_; clear hb hbox hg; have hcz22_0 : w21.cell? ⟨gb113, 0, none⟩ = some (.int .i64 a0_0) := (blk_cell BK113.out 0).trans rfl; have hcz22_1 : w21.cell? ⟨gb113, 1, none⟩ = some (.int .i64 a0_1) := (blk_cell BK113.out 1).trans rfl; have hcz22_2 : w21.cell? ⟨gb113, 2, none⟩ = some (.int .i64 a0_2) := (blk_cell BK113.out 2).trans rfl; have hcz22_3 : w21.cell? ⟨gb113, 3, none⟩ = some (.int .i64 a0_3) := (blk_cell BK113.out 3).trans rfl; have hcz22_4 : w21.cell? ⟨gb113, 4, none⟩ = some (.int .i64 a0_4) := (blk_cell BK113.out 4).trans rfl; have hfz22_0 := blk_frozen BK113.out 0; have hfz22_1 := blk_frozen BK113.out 1; have hfz22_2 := blk_frozen BK113.out 2; have hfz22_3 := blk_frozen BK113.out 3; have hfz22_4 := blk_frozen BK113.out 4))
            go_ret
            exact ⟨by first | rfl | (simp [errW_none, errW_some] <;> rfl) | (simp [*, errW_none, errW_some] <;> rfl), by repeat (first | (with_reducible first | exact HB.out | apply below_alloc | apply pw_below_drewN | apply below_drew1 | refine below_set ?_ GE113.out) | exact HB.out)⟩
        · rw [if_neg c5] at H
          have c5b0 : decide (a0_3 ≤ 8) = false := decide_eq_false c5
          clear c5
          obtain rfl := Option.some.inj H
          go_enter Try.func18, Try.ntmps18
          go_wp2_with (first | ((with_reducible refine gate_dst (N := 1) rfl ?_); refine box_event ?hg (N := 1) ?hd (cs := #[.int .i64 a0_0, .int .i64 a0_1, .int .i64 a0_2, .int .i64 a0_3, .int .i64 a0_4]) (t := 23) ?hr ?_; (case hd => rfl); (case hg => rfl); (case hr => first | (go_simp; done) | (go_simp; rfl)); intro gb113 hg w23 hbox hb; have n0_ := Aside0.mk (below_step (by repeat (first | (with_reducible first | exact HB.out | apply below_alloc | apply pw_below_drewN | apply below_drew1) | exact HB.out)) hb); have n1_ := Aside0.mk (hbox); have n2_ := Aside0.mk ((by rw [hg]; exact (below_size (by repeat (first | (with_reducible first | exact HB.out | apply below_alloc | apply pw_below_drewN | apply below_drew1) | exact HB.out))) : w.heap.size ≤ gb113)); have n3_ := Aside0.mk ((by rw [hg]; exact (below_size (by repeat (first | (with_reducible first | exact HB.out | apply below_alloc | apply pw_below_drewN | apply below_drew1) | exact HB.out))) : w.heap.size ≤ gb113)); clear HB; have HB := n0_; have BK113 := n1_; have GW113 := n2_; have GE113 := n3_; clear n0_ n1_ n2_ n3_; clear hb hbox hg; have hcz24_0 : w23.cell? ⟨gb113, 0, none⟩ = some (.int .i64 a0_0) := (blk_cell BK113.out 0).trans rfl; have hcz24_1 : w23.cell? ⟨gb113, 1, none⟩ = some (.int .i64 a0_1) := (blk_cell BK113.out 1).trans rfl; have hcz24_2 : w23.cell? ⟨gb113, 2, none⟩ = some (.int .i64 a0_2) := (blk_cell BK113.out 2).trans rfl; have hcz24_3 : w23.cell? ⟨gb113, 3, none⟩ = some (.int .i64 a0_3) := (blk_cell BK113.out 3).trans rfl; have hcz24_4 : w23.cell? ⟨gb113, 4, none⟩ = some (.int .i64 a0_4) := (blk_cell BK113.out 4).trans rfl; have hfz24_0 := blk_frozen BK113.out 0; have hfz24_1 := blk_frozen BK113.out 1; have hfz24_2 := blk_frozen BK113.out 2; have hfz24_3 := blk_frozen BK113.out 3; have hfz24_4 := blk_frozen BK113.out 4))
          go_ret
          exact ⟨by first | rfl | (simp [errW_none, errW_some] <;> rfl) | (simp [*, errW_none, errW_some] <;> rfl), by repeat (first | (with_reducible first | exact HB.out | apply below_alloc | apply pw_below_drewN | apply below_drew1 | refine below_set ?_ GE113.out) | exact HB.out)⟩
      · rw [if_neg c4] at H
        have c4b0 : decide (0 ≤ a0_3) = false := decide_eq_false c4
        clear c4
        obtain rfl := Option.some.inj H
        go_enter Try.func18, Try.ntmps18
        go_wp2_with (first | ((with_reducible refine gate_dst (N := 1) rfl ?_); refine box_event ?hg (N := 1) ?hd (cs := #[.int .i64 a0_0, .int .i64 a0_1, .int .i64 a0_2, .int .i64 a0_3, .int .i64 a0_4]) (t := 23) ?hr ?_; (case hd => rfl); (case hg => rfl); (case hr => first | (go_simp; done) | (go_simp; rfl)); intro gb113 hg w25 hbox hb; have n0_ := Aside0.mk (below_step (by repeat (first | (with_reducible first | exact HB.out | apply below_alloc | apply pw_below_drewN | apply below_drew1) | exact HB.out)) hb); have n1_ := Aside0.mk (hbox); have n2_ := Aside0.mk ((by rw [hg]; exact (below_size (by repeat (first | (with_reducible first | exact HB.out | apply below_alloc | apply pw_below_drewN | apply below_drew1) | exact HB.out))) : w.heap.size ≤ gb113)); have n3_ := Aside0.mk ((by rw [hg]; exact (below_size (by repeat (first | (with_reducible first | exact HB.out | apply below_alloc | apply pw_below_drewN | apply below_drew1) | exact HB.out))) : w.heap.size ≤ gb113)); clear HB; have HB := n0_; have BK113 := n1_; have GW113 := n2_; have GE113 := n3_; clear n0_ n1_ n2_ n3_; clear hb hbox hg; have hcz26_0 : w25.cell? ⟨gb113, 0, none⟩ = some (.int .i64 a0_0) := (blk_cell BK113.out 0).trans rfl; have hcz26_1 : w25.cell? ⟨gb113, 1, none⟩ = some (.int .i64 a0_1) := (blk_cell BK113.out 1).trans rfl; have hcz26_2 : w25.cell? ⟨gb113, 2, none⟩ = some (.int .i64 a0_2) := (blk_cell BK113.out 2).trans rfl; have hcz26_3 : w25.cell? ⟨gb113, 3, none⟩ = some (.int .i64 a0_3) := (blk_cell BK113.out 3).trans rfl; have hcz26_4 : w25.cell? ⟨gb113, 4, none⟩ = some (.int .i64 a0_4) := (blk_cell BK113.out 4).trans rfl; have hfz26_0 := blk_frozen BK113.out 0; have hfz26_1 := blk_frozen BK113.out 1; have hfz26_2 := blk_frozen BK113.out 2; have hfz26_3 := blk_frozen BK113.out 3; have hfz26_4 := blk_frozen BK113.out 4))
        go_ret
        exact ⟨by first | rfl | (simp [errW_none, errW_some] <;> rfl) | (simp [*, errW_none, errW_some] <;> rfl), by repeat (first | (with_reducible first | exact HB.out | apply below_alloc | apply pw_below_drewN | apply below_drew1 | refine below_set ?_ GE113.out) | exact HB.out)⟩
    · rw [if_neg c3] at H
      have c3b0 : decide (a0_0 ≤ 6) = false := decide_eq_false c3
      clear c3
      obtain rfl := Option.some.inj H
      go_enter Try.func18, Try.ntmps18
      go_wp2_with (first | ((with_reducible refine gate_dst (N := 1) rfl ?_); refine box_event ?hg (N := 1) ?hd (cs := #[.int .i64 a0_0, .int .i64 a0_1, .int .i64 a0_2, .int .i64 a0_3, .int .i64 a0_4]) (t := 23) ?hr ?_; (case hd => rfl); (case hg => rfl); (case hr => first | (go_simp; done) | (go_simp; rfl)); intro gb113 hg w27 hbox hb; have n0_ := Aside0.mk (below_step (by repeat (first | (with_reducible first | exact HB.out | apply below_alloc | apply pw_below_drewN | apply below_drew1) | exact HB.out)) hb); have n1_ := Aside0.mk (hbox); have n2_ := Aside0.mk ((by rw [hg]; exact (below_size (by repeat (first | (with_reducible first | exact HB.out | apply below_alloc | apply pw_below_drewN | apply below_drew1) | exact HB.out))) : w.heap.size ≤ gb113)); have n3_ := Aside0.mk ((by rw [hg]; exact (below_size (by repeat (first | (with_reducible first | exact HB.out | apply below_alloc | apply pw_below_drewN | apply below_drew1) | exact HB.out))) : w.heap.size ≤ gb113)); clear HB; have HB := n0_; have BK113 := n1_; have GW113 := n2_; have GE113 := n3_; clear n0_ n1_ n2_ n3_; clear hb hbox hg; have hcz28_0 : w27.cell? ⟨gb113, 0, none⟩ = some (.int .i64 a0_0) := (blk_cell BK113.out 0).trans rfl; have hcz28_1 : w27.cell? ⟨gb113, 1, none⟩ = some (.int .i64 a0_1) := (blk_cell BK113.out 1).trans rfl; have hcz28_2 : w27.cell? ⟨gb113, 2, none⟩ = some (.int .i64 a0_2) := (blk_cell BK113.out 2).trans rfl; have hcz28_3 : w27.cell? ⟨gb113, 3, none⟩ = some (.int .i64 a0_3) := (blk_cell BK113.out 3).trans rfl; have hcz28_4 : w27.cell? ⟨gb113, 4, none⟩ = some (.int .i64 a0_4) := (blk_cell BK113.out 4).trans rfl; have hfz28_0 := blk_frozen BK113.out 0; have hfz28_1 := blk_frozen BK113.out 1; have hfz28_2 := blk_frozen BK113.out 2; have hfz28_3 := blk_frozen BK113.out 3; have hfz28_4 := blk_frozen BK113.out 4))
      go_ret
      exact ⟨by first | rfl | (simp [errW_none, errW_some] <;> rfl) | (simp [*, errW_none, errW_some] <;> rfl), by repeat (first | (with_reducible first | exact HB.out | apply below_alloc | apply pw_below_drewN | apply below_drew1 | refine below_set ?_ GE113.out) | exact HB.out)⟩
  · rw [if_neg c2] at H
    have c2b0 : decide (1 ≤ a0_0) = false := decide_eq_false c2
    clear c2
    obtain rfl := Option.some.inj H
    go_enter Try.func18, Try.ntmps18
    go_wp2_with (first | ((with_reducible refine gate_dst (N := 1) rfl ?_); refine box_event ?hg (N := 1) ?hd (cs := #[.int .i64 a0_0, .int .i64 a0_1, .int .i64 a0_2, .int .i64 a0_3, .int .i64 a0_4]) (t := 23) ?hr ?_; (case hd => rfl); (case hg => rfl); (case hr => first | (go_simp; done) | (go_simp; rfl)); intro gb113 hg w29 hbox hb; have n0_ := Aside0.mk (below_step (by repeat (first | (with_reducible first | exact HB.out | apply below_alloc | apply pw_below_drewN | apply below_drew1) | exact HB.out)) hb); have n1_ := Aside0.mk (hbox); have n2_ := Aside0.mk ((by rw [hg]; exact (below_size (by repeat (first | (with_reducible first | exact HB.out | apply below_alloc | apply pw_below_drewN | apply below_drew1) | exact HB.out))) : w.heap.size ≤ gb113)); have n3_ := Aside0.mk ((by rw [hg]; exact (below_size (by repeat (first | (with_reducible first | exact HB.out | apply below_alloc | apply pw_below_drewN | apply below_drew1) | exact HB.out))) : w.heap.size ≤ gb113)); clear HB; have HB := n0_; have BK113 := n1_; have GW113 := n2_; have GE113 := n3_; clear n0_ n1_ n2_ n3_; clear hb hbox hg; have hcz30_0 : w29.cell? ⟨gb113, 0, none⟩ = some (.int .i64 a0_0) := (blk_cell BK113.out 0).trans rfl; have hcz30_1 : w29.cell? ⟨gb113, 1, none⟩ = some (.int .i64 a0_1) := (blk_cell BK113.out 1).trans rfl; have hcz30_2 : w29.cell? ⟨gb113, 2, none⟩ = some (.int .i64 a0_2) := (blk_cell BK113.out 2).trans rfl; have hcz30_3 : w29.cell? ⟨gb113, 3, none⟩ = some (.int .i64 a0_3) := (blk_cell BK113.out 3).trans rfl; have hcz30_4 : w29.cell? ⟨gb113, 4, none⟩ = some (.int .i64 a0_4) := (blk_cell BK113.out 4).trans rfl; have hfz30_0 := blk_frozen BK113.out 0; have hfz30_1 := blk_frozen BK113.out 1; have hfz30_2 := blk_frozen BK113.out 2; have hfz30_3 := blk_frozen BK113.out 3; have hfz30_4 := blk_frozen BK113.out 4))
    go_ret
    exact ⟨by first | rfl | (simp [errW_none, errW_some] <;> rfl) | (simp [*, errW_none, errW_some] <;> rfl), by repeat (first | (with_reducible first | exact HB.out | apply below_alloc | apply pw_below_drewN | apply below_drew1 | refine below_set ?_ GE113.out) | exact HB.out)⟩

end Go.Proofs.Ytcadbpneldjpbaa.P
