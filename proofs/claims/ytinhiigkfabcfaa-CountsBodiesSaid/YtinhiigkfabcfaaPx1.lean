/- Functions and contracts, written by a program (mkprint.py, a wrapper of ours around the print); texts between GIVEN marks are ours. -/
import Derived.Test.YtinhiigkfabcfaaPx0
namespace Go.Proofs.Ytinhiigkfabcfaa.P
open Go.RowKit Go.Proofs.YtinhiigkfabcfaaW.PrintWords Go.Proofs.YtinhiigkfabcfaaW.PrintLast Go.Proofs.YtinhiigkfabcfaaW.PrintMore
attribute [local go_sem] max2_int min2_int max_two min_two max_three min_three max_four min_four   -- for this text's walks alone
set_option linter.unusedVariables false
set_option linter.unusedSimpArgs false

/-! ### super_Areas: function 33 -/
def super_Areas.f (a0 : Int) : Option (Int × Int) := some (wrap64 (Int.tdiv (wrap64 ((wrap64 (a0 + 118)) - 1)) 118), wrap64 (2 + (wrap64 (2 * (wrap64 (Int.tdiv (wrap64 ((wrap64 (a0 + 118)) - 1)) 118))))))
set_option maxHeartbeats 8000000 in
set_option maxRecDepth 100000 in
theorem super_Areas.calls (a0 : Int) (r1 : Int) (r2 : Int) (w : World) (h : super_Areas.f a0 = some (r1, r2)) :
    Calls Try.prog 33 #[.int .i64 a0] w fun e w' => e = .returned (.tuple #[.int .i64 r1, .int .i64 r2]) ∧ Drawn0 w w' := by
  have H : (some (wrap64 (Int.tdiv (wrap64 ((wrap64 (a0 + 118)) - 1)) 118), wrap64 (2 + (wrap64 (2 * (wrap64 (Int.tdiv (wrap64 ((wrap64 (a0 + 118)) - 1)) 118))))))) = some (r1, r2) := h
  clear h
  simp only [Option.some.injEq, Prod.mk.injEq] at H
  obtain ⟨rfl, rfl⟩ := H
  go_enter Try.func33, Try.ntmps33
  go_wp2
  go_ret2
  exact ⟨by first | rfl | (simp; done) | (simp [*]; done), by repeat (first | exact Drawn0.refl _ | apply Drawn0.step)⟩

-- NOT PRINTED: function 12 (counts_New)

/-- A state of type 58 at block g of W; what its slices lead to came in by w0. -/
def IsS58 (w0 W : World) (g : Nat) (f0 : List Int) (f1 : List Int) (f2 : Int) (f3 : Int) : Prop := ∃ A0 c0, ∃ A1 c1, W.heap[g]? = some (.cells #[.slice A0 f0.length c0, .slice A1 f1.length c1, .int .i64 f2, .int .i64 f3] 58 (0, 0)) ∧ w0.heap.size ≤ g ∧ Kd.C (Kd.int .i64) w0 A0 f0.length f0 ∧ Kd.C (Kd.int .i64) w0 A1 f1.length f1
theorem IsS58.grown {w0 W : World} {g : Nat} {f0 : List Int} {f1 : List Int} {f2 : Int} {f3 : Int} {W1 : World} {row : Option Nat} (h : IsS58 w0 W g f0 f1 f2 f3) (hw : W.grownBy W1 row) (hne : some g ≠ row) : IsS58 w0 W1 g f0 f1 f2 f3 := by
  obtain ⟨A0, c0, A1, c1, hb, hg, hr0, hr1⟩ := h
  exact ⟨A0, c0, A1, c1, blk_grown hb hw hne, hg, hr0, hr1⟩
theorem IsS58.own_neN {w0 W : World} {g : Nat} {f0 : List Int} {f1 : List Int} {f2 : Int} {f3 : Int} {α : Type} {d : Kd α} {e : Nat} {base : Nat} {ok : Nat → Prop} {v : Value} {xs : List α} (h : IsS58 w0 W g f0 f1 f2 f3) (ho : Kd.N d e W base ok v xs) (ht : e ≠ 58) : some g ≠ v.ownBlock := by
  obtain ⟨A0, c0, A1, c1, hb, hg, hr0, hr1⟩ := h
  exact Kd.N_ne ho hb ht
theorem IsS58.fresh {w0 W : World} {g : Nat} {f0 : List Int} {f1 : List Int} {f2 : Int} {f3 : Int} (h : IsS58 w0 W g f0 f1 f2 f3) : ∀ k, W.heap.size ≤ k → k ≠ g := by
  obtain ⟨A0, c0, A1, c1, hb, hg, hr0, hr1⟩ := h
  exact Kd.freshB hb
theorem IsS58.kept {w0 W : World} {g : Nat} {f0 : List Int} {f1 : List Int} {f2 : Int} {f3 : Int} {W1 : World} {S : Nat → Prop} (h : IsS58 w0 W g f0 f1 f2 f3) (hk : Kept W W1 S) (hne : ¬ S g) : IsS58 w0 W1 g f0 f1 f2 f3 := by
  obtain ⟨A0, c0, A1, c1, hb, hg, hr0, hr1⟩ := h
  exact ⟨A0, c0, A1, c1, blk_kept hb hk hne, hg, hr0, hr1⟩
theorem IsS58.below {w0 W : World} {g : Nat} {f0 : List Int} {f1 : List Int} {f2 : Int} {f3 : Int} {W1 : World} (h : IsS58 w0 W g f0 f1 f2 f3) (hw : Below W.heap.size W W1) : IsS58 w0 W1 g f0 f1 f2 f3 := h.grown (grown_of_below hw none) (by simp)
theorem IsS58.alloc {w0 W : World} {g : Nat} {f0 : List Int} {f1 : List Int} {f2 : Int} {f3 : Int} (h : IsS58 w0 W g f0 f1 f2 f3) (o : Obj) : IsS58 w0 (W.alloc o) g f0 f1 f2 f3 := h.below (below_alloc (Below.refl _ _) o)
theorem IsS58.drewN {w0 W : World} {g : Nat} {f0 : List Int} {f1 : List Int} {f2 : Int} {f3 : Int} (h : IsS58 w0 W g f0 f1 f2 f3) (m : Nat) : IsS58 w0 (W.drewN m) g f0 f1 f2 f3 := h
theorem IsS58.drew {w0 W : World} {g : Nat} {f0 : List Int} {f1 : List Int} {f2 : Int} {f3 : Int} (h : IsS58 w0 W g f0 f1 f2 f3) : IsS58 w0 W.drew g f0 f1 f2 f3 := h
theorem IsS58.at_ {w0 W : World} {g : Nat} {f0 : List Int} {f1 : List Int} {f2 : Int} {f3 : Int} {w' : World} {m : Nat} (hq : W.drewN m = w') (h : IsS58 w0 W g f0 f1 f2 f3) : IsS58 w0 w' g f0 f1 f2 f3 := by subst hq; exact IsS58.drewN h m
theorem IsS58.apart {w0 W : World} {g : Nat} {f0 : List Int} {f1 : List Int} {f2 : Int} {f3 : Int} {α : Type} {d : Kd α} {e : Nat} {base : Nat} {ok : Nat → Prop} {v : Value} {xs : List α} (h : IsS58 w0 W g f0 f1 f2 f3) (ho : d.R e W base ok v xs) (ht : ∀ q, q ∈ e :: d.E → q ≠ 58) : d.R e W base (fun k => ok k ∧ k ≠ g) v xs := by
  obtain ⟨A0, c0, A1, c1, hb, hg, hr0, hr1⟩ := h
  exact Kd.R_types ho hb ht
theorem IsS58.own_ne {w0 W : World} {g : Nat} {f0 : List Int} {f1 : List Int} {f2 : Int} {f3 : Int} {α : Type} {d : Kd α} {e : Nat} {base : Nat} {ok : Nat → Prop} {v : Value} {xs : List α} (h : IsS58 w0 W g f0 f1 f2 f3) (ho : d.R e W base ok v xs) (ht : e ≠ 58) : some g ≠ v.ownBlock := by
  obtain ⟨A0, c0, A1, c1, hb, hg, hr0, hr1⟩ := h
  exact Kd.R_ne ho hb ht
theorem IsS58.apartQ {w0 W : World} {g : Nat} {f0 : List Int} {f1 : List Int} {f2 : Int} {f3 : Int} {α : Type} {d : Kd α} {e : Nat} {base : Nat} {ok : Nat → Prop} {v : Value} {xs : List α} (h : IsS58 w0 W g f0 f1 f2 f3) (ho : d.Q e W base ok v xs) (ht : ∀ q, q ∈ e :: d.E → q ≠ 58) : d.Q e W base (fun k => ok k ∧ k ≠ g) v xs := by
  obtain ⟨A0, c0, A1, c1, hb, hg, hr0, hr1⟩ := h
  exact Kd.Q_types ho hb ht
theorem IsS58.own_neQ {w0 W : World} {g : Nat} {f0 : List Int} {f1 : List Int} {f2 : Int} {f3 : Int} {α : Type} {d : Kd α} {e : Nat} {base : Nat} {ok : Nat → Prop} {v : Value} {xs : List α} (h : IsS58 w0 W g f0 f1 f2 f3) (ho : d.Q e W base ok v xs) (ht : e ≠ 58) : some g ≠ v.ownBlock := by
  obtain ⟨A0, c0, A1, c1, hb, hg, hr0, hr1⟩ := h
  exact Kd.Q_ne ho hb ht
theorem IsS58.apartS {w0 W : World} {g : Nat} {f0 : List Int} {f1 : List Int} {f2 : Int} {f3 : Int} {α : Type} {d : Kd α} {e : Nat} {base : Nat} {ok : Nat → Prop} {v : Value} {xs : List α} (h : IsS58 w0 W g f0 f1 f2 f3) (ho : d.S e W base ok v xs) (ht : ∀ q, q ∈ e :: d.E → q ≠ 58) : d.S e W base (fun k => ok k ∧ k ≠ g) v xs := by
  obtain ⟨A0, c0, A1, c1, hb, hg, hr0, hr1⟩ := h
  exact Kd.S_types ho hb ht
theorem IsS58.own_neS {w0 W : World} {g : Nat} {f0 : List Int} {f1 : List Int} {f2 : Int} {f3 : Int} {α : Type} {d : Kd α} {e : Nat} {base : Nat} {ok : Nat → Prop} {v : Value} {xs : List α} (h : IsS58 w0 W g f0 f1 f2 f3) (ho : d.S e W base ok v xs) (ht : e ≠ 58) : some g ≠ v.ownBlock := by
  obtain ⟨A0, c0, A1, c1, hb, hg, hr0, hr1⟩ := h
  exact Kd.S_ne ho hb ht
theorem IsS58.lt {w0 W : World} {g : Nat} {f0 : List Int} {f1 : List Int} {f2 : Int} {f3 : Int} (h : IsS58 w0 W g f0 f1 f2 f3) : g < W.heap.size := by
  obtain ⟨A0, c0, A1, c1, hb, hg, hr0, hr1⟩ := h
  exact blk_lt hb
theorem IsS58.ge {w0 W : World} {g : Nat} {f0 : List Int} {f1 : List Int} {f2 : Int} {f3 : Int} (h : IsS58 w0 W g f0 f1 f2 f3) : w0.heap.size ≤ g := by
  obtain ⟨A0, c0, A1, c1, hb, hg, hr0, hr1⟩ := h
  exact hg
theorem IsS58.ne_blk {w0 W : World} {g : Nat} {f0 : List Int} {f1 : List Int} {f2 : Int} {f3 : Int} {a : Nat} {cs : Array Value} {t : TypeId} {fr : Nat × Nat} (h : IsS58 w0 W g f0 f1 f2 f3) (hb2 : W.heap[a]? = some (.cells cs t fr)) (ht : t ≠ 58) : g ≠ a := by
  obtain ⟨A0, c0, A1, c1, hb, hg, hr0, hr1⟩ := h
  rintro rfl
  rw [hb] at hb2
  injection hb2 with hb2
  injection hb2 with _ ht2
  exact ht ht2.symm
theorem IsS58.far {w0 W : World} {g : Nat} {f0 : List Int} {f1 : List Int} {f2 : Int} {f3 : Int} {p : Addr} (h : IsS58 w0 W g f0 f1 f2 f3) (hne : g ≠ p.block) (u : Value) : IsS58 w0 (W.setCell p u) g f0 f1 f2 f3 := by
  obtain ⟨A0, c0, A1, c1, hb, hg, hr0, hr1⟩ := h
  exact ⟨A0, c0, A1, c1, blk_far hb hne u, hg, hr0, hr1⟩
theorem cellS58_0 {W : World} {g : Nat} {A0 : Option Addr} {c0 : Nat} {A1 : Option Addr} {c1 : Nat} {f0 : List Int} {f1 : List Int} {f2 : Int} {f3 : Int} (h : W.heap[g]? = some (.cells #[.slice A0 f0.length c0, .slice A1 f1.length c1, .int .i64 f2, .int .i64 f3] 58 (0, 0))) : W.cell? ⟨g, 0, none⟩ = some (.slice A0 f0.length c0) := (blk_cell h 0).trans rfl
theorem cellS58_1 {W : World} {g : Nat} {A0 : Option Addr} {c0 : Nat} {A1 : Option Addr} {c1 : Nat} {f0 : List Int} {f1 : List Int} {f2 : Int} {f3 : Int} (h : W.heap[g]? = some (.cells #[.slice A0 f0.length c0, .slice A1 f1.length c1, .int .i64 f2, .int .i64 f3] 58 (0, 0))) : W.cell? ⟨g, 1, none⟩ = some (.slice A1 f1.length c1) := (blk_cell h 1).trans rfl
theorem cellS58_2 {W : World} {g : Nat} {A0 : Option Addr} {c0 : Nat} {A1 : Option Addr} {c1 : Nat} {f0 : List Int} {f1 : List Int} {f2 : Int} {f3 : Int} (h : W.heap[g]? = some (.cells #[.slice A0 f0.length c0, .slice A1 f1.length c1, .int .i64 f2, .int .i64 f3] 58 (0, 0))) : W.cell? ⟨g, 2, none⟩ = some (.int .i64 f2) := (blk_cell h 2).trans rfl
theorem IsS58.set_2 {w0 W : World} {g : Nat} {f0 : List Int} {f1 : List Int} {f2 : Int} {f3 : Int} (h : IsS58 w0 W g f0 f1 f2 f3) (x : Int) : IsS58 w0 (W.setCell ⟨g, 2, none⟩ (.int .i64 x)) g f0 f1 x f3 := by
  obtain ⟨A0, c0, A1, c1, hb, hg, hr0, hr1⟩ := h
  exact ⟨A0, c0, A1, c1, by simpa using blk_set hb 2 (.int .i64 x), hg, hr0, hr1⟩
theorem cellS58_3 {W : World} {g : Nat} {A0 : Option Addr} {c0 : Nat} {A1 : Option Addr} {c1 : Nat} {f0 : List Int} {f1 : List Int} {f2 : Int} {f3 : Int} (h : W.heap[g]? = some (.cells #[.slice A0 f0.length c0, .slice A1 f1.length c1, .int .i64 f2, .int .i64 f3] 58 (0, 0))) : W.cell? ⟨g, 3, none⟩ = some (.int .i64 f3) := (blk_cell h 3).trans rfl
theorem IsS58.set_3 {w0 W : World} {g : Nat} {f0 : List Int} {f1 : List Int} {f2 : Int} {f3 : Int} (h : IsS58 w0 W g f0 f1 f2 f3) (x : Int) : IsS58 w0 (W.setCell ⟨g, 3, none⟩ (.int .i64 x)) g f0 f1 f2 x := by
  obtain ⟨A0, c0, A1, c1, hb, hg, hr0, hr1⟩ := h
  exact ⟨A0, c0, A1, c1, by simpa using blk_set hb 3 (.int .i64 x), hg, hr0, hr1⟩
theorem IsS58.new (w0 W : World) (A0 : Option Addr) (c0 : Nat) (A1 : Option Addr) (c1 : Nat) (f0 : List Int) (f1 : List Int) (f2 : Int) (f3 : Int) (hB : Below w0.heap.size w0 W) (hr0 : Kd.C (Kd.int .i64) w0 A0 f0.length f0) (hr1 : Kd.C (Kd.int .i64) w0 A1 f1.length f1) : IsS58 w0 (W.alloc (.cells #[.slice A0 f0.length c0, .slice A1 f1.length c1, .int .i64 f2, .int .i64 f3] 58)) W.heap.size f0 f1 f2 f3 := ⟨A0, c0, A1, c1, by simpa using heap_alloc_new W _, hB.size, hr0, hr1⟩

/-! ### counts_Counts_free: function 34 -/
def counts_Counts_free.f (s0_0 : List Int) (s0_1 : List Int) (s0_2 : Int) (s0_3 : Int) (a1 : Int) : Option (Bool × Int × Int) := if 0 ≤ a1 then (if a1 < (s0_0.length : Int) then (if (rd s0_0 a1) = 0 then (if a1 < (s0_1.length : Int) then (some (((rd s0_1 a1) == 0), s0_2, s0_3)) else (none)) else (some (false, s0_2, s0_3))) else (none)) else (none)
set_option maxHeartbeats 8000000 in
set_option maxRecDepth 100000 in
theorem counts_Counts_free.calls (g : Nat) (s0_0 : List Int) (s0_1 : List Int) (s0_2 : Int) (s0_3 : Int) (a1 : Int) (r1 : Bool) (r2 : Int) (r3 : Int) (w0 w : World) (hI : IsS58 w0 w g s0_0 s0_1 s0_2 s0_3) (hB : Below w0.heap.size w0 w) (h : counts_Counts_free.f s0_0 s0_1 s0_2 s0_3 a1 = some (r1, r2, r3)) :
    Calls Try.prog 34 #[.pointer (some ⟨g, 0, none⟩), .int .i64 a1] w fun e w' => e = .returned (.bool r1) ∧ IsS58 w0 w' g s0_0 s0_1 r2 r3 ∧ Below w0.heap.size w0 w' ∧ KeepBut w w' g none := by
  have HI0 := Aside0.mk hI
  have HK := Aside0.mk (KeepBut.refl w g none)
  have HL := Aside0.mk hB.size
  clear hI
  have HW0 := Aside0.mk hB.size
  have HB := Aside0.mk hB
  clear hB
  have H : (if 0 ≤ a1 then (if a1 < (s0_0.length : Int) then (if (rd s0_0 a1) = 0 then (if a1 < (s0_1.length : Int) then (some (((rd s0_1 a1) == 0), s0_2, s0_3)) else (none)) else (some (false, s0_2, s0_3))) else (none)) else (none)) = some (r1, r2, r3) := h
  clear h
  by_cases c3 : 0 ≤ a1
  · rw [if_pos c3] at H
    have c3b0 : decide (0 ≤ a1) = true := decide_eq_true c3
    clear c3
    by_cases c4 : a1 < (s0_0.length : Int)
    · rw [if_pos c4] at H
      have c4b0 : decide (a1 < (s0_0.length : Int)) = true := decide_eq_true c4
      clear c4
      by_cases c5 : (rd s0_0 a1) = 0
      · rw [if_pos c5] at H
        have c5b0 : ((rd s0_0 a1) == 0) = true := beq_iff_eq.mpr c5
        have c5b1 : ((rd s0_0 a1) != 0) = false := bne_eq_false_iff_eq.mpr c5
        clear c5
        by_cases c6 : a1 < (s0_1.length : Int)
        · rw [if_pos c6] at H
          have c6b0 : decide (a1 < (s0_1.length : Int)) = true := decide_eq_true c6
          clear c6
          simp only [Option.some.injEq, Prod.mk.injEq] at H
          obtain ⟨rfl, rfl, rfl⟩ := H
          obtain ⟨ASz7_0, cSz7_0, ASz7_1, cSz7_1, HGz7, hgz7, HSz7_0, HSz7_1⟩ := HI0.out
          have hcz7_0 := cellS58_0 HGz7
          have hcz7_1 := cellS58_1 HGz7
          have hcz7_2 := cellS58_2 HGz7
          have hcz7_3 := cellS58_3 HGz7
          have hfz7_2 := blk_frozen HGz7 2
          have hfz7_3 := blk_frozen HGz7 3
          clear HGz7 hgz7
          have p101 : 0 ≤ (a1 : Int) := of_decide_eq_true (by first | (with_reducible assumption) | assumption)
          have q101 : a1 < (s0_0.length : Int) := of_decide_eq_true (by first | (with_reducible assumption) | assumption)
          obtain ⟨ad101, e101, hx101_0⟩ := Kd.at_int HSz7_0 a1 p101 q101
          cases e101
          replace hx101_0 := pw_cell_below HB.out hx101_0
          replace p101 := eq_true p101
          replace q101 := eq_true q101
          have p102 : 0 ≤ (a1 : Int) := of_decide_eq_true (by first | (with_reducible assumption) | assumption)
          have q102 : a1 < (s0_1.length : Int) := of_decide_eq_true (by first | (with_reducible assumption) | assumption)
          obtain ⟨ad102, e102, hx102_0⟩ := Kd.at_int HSz7_1 a1 p102 q102
          cases e102
          replace hx102_0 := pw_cell_below HB.out hx102_0
          replace p102 := eq_true p102
          replace q102 := eq_true q102
          go_enter Try.func34, Try.ntmps34
          go_wp2
          go_ret
          exact ⟨by first | rfl | (simp [errW_none, errW_some] <;> rfl) | (simp [*, errW_none, errW_some] <;> rfl), by repeat (first | (with_reducible first | exact HI0.out | apply IsS58.alloc | apply IsS58.drewN | apply IsS58.drew | apply IsS58.set_2 | apply IsS58.set_3) | exact HI0.out), by repeat (first | (with_reducible first | exact HB.out | apply below_alloc | apply pw_below_drewN | apply below_drew1 | refine below_set ?_ (IsS58.ge HI0.out)) | exact HB.out), by repeat (first | (with_reducible first | exact HK.out | apply KeepBut.set_ | apply keep_drewN | apply keep_drew | apply keep_alloc) | exact HK.out)⟩
        · rw [if_neg c6] at H
          exact absurd H (by simp)
      · rw [if_neg c5] at H
        have c5b0 : ((rd s0_0 a1) == 0) = false := beq_eq_false_iff_ne.mpr c5
        have c5b1 : ((rd s0_0 a1) != 0) = true := bne_iff_ne.mpr c5
        simp only [Option.some.injEq, Prod.mk.injEq] at H
        obtain ⟨rfl, rfl, rfl⟩ := H
        obtain ⟨ASz8_0, cSz8_0, ASz8_1, cSz8_1, HGz8, hgz8, HSz8_0, HSz8_1⟩ := HI0.out
        have hcz8_0 := cellS58_0 HGz8
        have hcz8_1 := cellS58_1 HGz8
        have hcz8_2 := cellS58_2 HGz8
        have hcz8_3 := cellS58_3 HGz8
        have hfz8_2 := blk_frozen HGz8 2
        have hfz8_3 := blk_frozen HGz8 3
        clear HGz8 hgz8
        have p101 : 0 ≤ (a1 : Int) := of_decide_eq_true (by first | (with_reducible assumption) | assumption)
        have q101 : a1 < (s0_0.length : Int) := of_decide_eq_true (by first | (with_reducible assumption) | assumption)
        obtain ⟨ad101, e101, hx101_0⟩ := Kd.at_int HSz8_0 a1 p101 q101
        cases e101
        replace hx101_0 := pw_cell_below HB.out hx101_0
        replace p101 := eq_true p101
        replace q101 := eq_true q101
        go_enter Try.func34, Try.ntmps34
        go_wp2
        go_ret
        exact ⟨by first | rfl | (simp [errW_none, errW_some] <;> rfl) | (simp [*, errW_none, errW_some] <;> rfl), by repeat (first | (with_reducible first | exact HI0.out | apply IsS58.alloc | apply IsS58.drewN | apply IsS58.drew | apply IsS58.set_2 | apply IsS58.set_3) | exact HI0.out), by repeat (first | (with_reducible first | exact HB.out | apply below_alloc | apply pw_below_drewN | apply below_drew1 | refine below_set ?_ (IsS58.ge HI0.out)) | exact HB.out), by repeat (first | (with_reducible first | exact HK.out | apply KeepBut.set_ | apply keep_drewN | apply keep_drew | apply keep_alloc) | exact HK.out)⟩
    · rw [if_neg c4] at H
      exact absurd H (by simp)
  · rw [if_neg c3] at H
    exact absurd H (by simp)

/-! ### counts_Counts_Free: function 13 -/
def counts_Counts_Free.l0 : Nat → Int → Int → List Int → List Int → Int → Int → Option (Int × Int × Int)
  | 0, _, _, _, _, _, _ => none
  | k + 1, x3, x4, x1000, x1001, x1002, x1003 => if x4 < (x1000.length : Int) then ((counts_Counts_free.f x1000 x1001 x1002 x1003 x4).bind fun bt103 => (if bt103.1 = true then (counts_Counts_Free.l0 k (wrap64 (x3 + 1)) (wrap64 (x4 + 1)) x1000 x1001 bt103.2.1 bt103.2.2) else (counts_Counts_Free.l0 k x3 (wrap64 (x4 + 1)) x1000 x1001 bt103.2.1 bt103.2.2))) else (some (x3, x1002, x1003))
def counts_Counts_Free.f (k : Nat) (s0_0 : List Int) (s0_1 : List Int) (s0_2 : Int) (s0_3 : Int) : Option (Int × Int × Int) := counts_Counts_Free.l0 k 0 s0_3 s0_0 s0_1 s0_2 s0_3
theorem counts_Counts_Free.mono_l : ∀ k, (∀ y0 y1 y2 y3 y4 y5, LeO (counts_Counts_Free.l0 k y0 y1 y2 y3 y4 y5) (counts_Counts_Free.l0 (k + 1) y0 y1 y2 y3 y4 y5))
  | 0 => fun _ _ _ _ _ _ r h => absurd (show none = some r from h) (by simp)
  | k + 1 => by
    have ih0 := counts_Counts_Free.mono_l k
    · intro y0 y1 y2 y3 y4 y5
      unfold counts_Counts_Free.l0
      repeat' first
      | (with_reducible exact ih0 _ _ _ _ _ _)
      | (with_reducible exact LeO.refl _)
      | (with_reducible exact LeO.none _)
      | (with_reducible refine LeO.ite ?_ ?_)
      | (with_reducible refine LeO.bind ?_ (fun _ => ?_))
      | exact ih0 _ _ _ _ _ _
      | exact LeO.none _
      | refine LeO.ite ?_ ?_
      | refine LeO.bind ?_ (fun _ => ?_)
theorem counts_Counts_Free.mono : ∀ a0 a1 a2 a3 k, LeO (counts_Counts_Free.f k a0 a1 a2 a3) (counts_Counts_Free.f (k + 1) a0 a1 a2 a3) := by
  intro a0 a1 a2 a3 k
  have ih0 := counts_Counts_Free.mono_l k
  unfold counts_Counts_Free.f
  repeat' first
      | (with_reducible exact ih0 _ _ _ _ _ _)
      | (with_reducible exact LeO.refl _)
      | (with_reducible exact LeO.none _)
      | (with_reducible refine LeO.ite ?_ ?_)
      | (with_reducible refine LeO.bind ?_ (fun _ => ?_))
      | exact ih0 _ _ _ _ _ _
      | exact LeO.none _
      | refine LeO.ite ?_ ?_
      | refine LeO.bind ?_ (fun _ => ?_)
set_option maxHeartbeats 8000000 in
set_option maxRecDepth 100000 in
theorem counts_Counts_Free.calls (k : Nat) (g : Nat) (s0_0 : List Int) (s0_1 : List Int) (s0_2 : Int) (s0_3 : Int) (r1 : Int) (r2 : Int) (r3 : Int) (w0 w : World) (hI : IsS58 w0 w g s0_0 s0_1 s0_2 s0_3) (hB : Below w0.heap.size w0 w) (h : counts_Counts_Free.f k s0_0 s0_1 s0_2 s0_3 = some (r1, r2, r3)) :
    Calls Try.prog 13 #[.pointer (some ⟨g, 0, none⟩)] w fun e w' => e = .returned (.int .i64 r1) ∧ IsS58 w0 w' g s0_0 s0_1 r2 r3 ∧ Below w0.heap.size w0 w' ∧ KeepBut w w' g none := by
  have HI0 := Aside0.mk hI
  have HK := Aside0.mk (KeepBut.refl w g none)
  have HL := Aside0.mk hB.size
  clear hI
  have HW0 := Aside0.mk hB.size
  have HB := Aside0.mk hB
  clear hB
  have H : (counts_Counts_Free.l0 k 0 s0_3 s0_0 s0_1 s0_2 s0_3) = some (r1, r2, r3) := h
  clear h
  have H' := Aside0.mk H
  clear H
  obtain ⟨ASz2_0, cSz2_0, ASz2_1, cSz2_1, HGz2, hgz2, HSz2_0, HSz2_1⟩ := HI0.out
  have hcz2_0 := cellS58_0 HGz2
  have hcz2_1 := cellS58_1 HGz2
  have hcz2_2 := cellS58_2 HGz2
  have hcz2_3 := cellS58_3 HGz2
  have hfz2_2 := blk_frozen HGz2 2
  have hfz2_3 := blk_frozen HGz2 3
  clear HGz2 hgz2
  go_enter Try.func13, Try.ntmps13
  go_wp2
  go_loopg [3, 4] k (fun kq v3 v4 w' => ∃ (x3_1 : Int) (x4_1 : Int) (x1002_1 : Int) (x1003_1 : Int), v3 = .int .i64 x3_1 ∧ v4 = .int .i64 x4_1 ∧ Aside0 (counts_Counts_Free.l0 kq x3_1 x4_1 s0_0 s0_1 x1002_1 x1003_1 = some (r1, r2, r3)) ∧ Aside0 (kq ≤ k) ∧ Aside0 (IsS58 w0 w' g s0_0 s0_1 x1002_1 x1003_1) ∧ Aside0 (KeepBut w w' g none) ∧ Aside0 (Below w0.heap.size w0 w'))
  case atStart => exact ⟨(0), (s0_3), (s0_2), (s0_3), (by first | rfl | (simp; done) | (simp [*]; done)), (by first | rfl | (simp; done) | (simp [*]; done)), H', ⟨Nat.le_refl _⟩, ⟨by repeat (first | (with_reducible first | exact HI0.out | apply IsS58.alloc | apply IsS58.drewN | apply IsS58.drew | apply IsS58.set_2 | apply IsS58.set_3) | exact HI0.out)⟩, ⟨by repeat (first | (with_reducible first | exact HK.out | apply KeepBut.set_ | apply keep_drewN | apply keep_drew | apply keep_alloc) | exact HK.out)⟩, ⟨by repeat (first | (with_reducible first | exact HB.out | apply below_alloc | apply pw_below_drewN | apply below_drew1 | refine below_set ?_ (IsS58.ge HI0.out)) | exact HB.out)⟩⟩
  case round =>
    clear H'
    try clear c1
    try clear p2
    try clear hcz2_0
    try clear hcz2_1
    try clear hcz2_2
    try clear hcz2_3
    try clear hfz2_2
    try clear hfz2_3
    obtain ⟨x3_1, x4_1, x1002_1, x1003_1, rfl, rfl, HA, HK1, HI0, HK, HB⟩ := hrel
    cases gk with
    | zero => exact absurd (show none = some _ from HA.out) (by simp)
    | succ k1 =>
      have H := HA.out
      clear HA
      simp only [counts_Counts_Free.l0] at H
      by_cases c3 : x4_1 < (s0_0.length : Int)
      · rw [if_pos c3] at H
        have c3b0 : decide (x4_1 < (s0_0.length : Int)) = true := decide_eq_true c3
        clear c3
        replace H := Option.bind_eq_some_iff.mp H
        obtain ⟨⟨t103, t104, t105⟩, A40, H⟩ := H
        replace H : (if t103 = true then (counts_Counts_Free.l0 k1 (wrap64 (x3_1 + 1)) (wrap64 (x4_1 + 1)) s0_0 s0_1 t104 t105) else (counts_Counts_Free.l0 k1 x3_1 (wrap64 (x4_1 + 1)) s0_0 s0_1 t104 t105)) = some (r1, r2, r3) := H
        have A4 := Aside0.mk A40
        clear A40
        by_cases c5 : t103 = true
        · subst c5
          have H1 : (counts_Counts_Free.l0 k1 (wrap64 (x3_1 + 1)) (wrap64 (x4_1 + 1)) s0_0 s0_1 t104 t105) = some (r1, r2, r3) := by rw [if_pos rfl] at H; exact H
          clear H
          have H := H1
          clear H1
          have H' := Aside0.mk H
          clear H
          obtain ⟨ASz6_0, cSz6_0, ASz6_1, cSz6_1, HGz6, hgz6, HSz6_0, HSz6_1⟩ := HI0.out
          have hcz6_0 := cellS58_0 HGz6
          have hcz6_1 := cellS58_1 HGz6
          have hcz6_2 := cellS58_2 HGz6
          have hcz6_3 := cellS58_3 HGz6
          have hfz6_2 := blk_frozen HGz6 2
          have hfz6_3 := blk_frozen HGz6 3
          clear HGz6 hgz6
          go_wp2_with (first | ((with_reducible refine gate_callee (f := 34) rfl ?_); refine goesL_ (some 20) rfl rfl Try.func34 (by kernel_rfl) rfl #[.pointer (some ⟨g, 0, none⟩), .int .i64 x4_1] rfl (by (try simp only [List.map_toArray, List.map_cons, List.map_nil]); first | done | rfl | (simp only [List.length_drop, List.length_take]; rfl)) ?_; (with_reducible refine (counts_Counts_free.calls g s0_0 s0_1 x1002_1 x1003_1 x4_1 true t104 t105 w0 _ ?side1 ?side2 A4.out).mono ?_); (case side1 => repeat (first | (with_reducible first | exact HI0.out | apply IsS58.alloc | apply IsS58.drewN | apply IsS58.drew | apply IsS58.set_2 | apply IsS58.set_3) | exact HI0.out)); (case side2 => repeat (first | (with_reducible first | exact HB.out | apply below_alloc | apply pw_below_drewN | apply below_drew1 | refine below_set ?_ (IsS58.ge HI0.out)) | exact HB.out)); rintro e w7 ⟨rfl, hi, hb, hk⟩; refine ⟨_, rfl, ?_⟩; have n0_ := Aside0.mk (KeepBut.trans (by repeat (first | (with_reducible first | exact HK.out | apply KeepBut.set_ | apply keep_drewN | apply keep_drew | apply keep_alloc) | exact HK.out)) hk (.inl rfl)); have n1_ := Aside0.mk (hb); have n2_ := Aside0.mk (hi); clear HK; clear HB; clear HI0; have HK := n0_; have HB := n1_; have HI0 := n2_; clear n0_ n1_ n2_; (try clear hb); (try clear hb2); (try clear hk); (try clear hi)))
          go_roundg k1
          case measure => have := HK1.out; omega
          case rel => exact ⟨(wrap64 (x3_1 + 1)), (wrap64 (x4_1 + 1)), (t104), (t105), (by first | rfl | (simp; done) | (simp [*]; done)), (by first | rfl | (simp; done) | (simp [*]; done)), H', ⟨by have := HK1.out; omega⟩, ⟨by repeat (first | (with_reducible first | exact HI0.out | apply IsS58.alloc | apply IsS58.drewN | apply IsS58.drew | apply IsS58.set_2 | apply IsS58.set_3) | exact HI0.out)⟩, ⟨by repeat (first | (with_reducible first | exact HK.out | apply KeepBut.set_ | apply keep_drewN | apply keep_drew | apply keep_alloc) | exact HK.out)⟩, ⟨by repeat (first | (with_reducible first | exact HB.out | apply below_alloc | apply pw_below_drewN | apply below_drew1 | refine below_set ?_ (IsS58.ge HI0.out)) | exact HB.out)⟩⟩
        · replace c5 := Bool.eq_false_iff.mpr c5
          subst c5
          have H1 : (counts_Counts_Free.l0 k1 x3_1 (wrap64 (x4_1 + 1)) s0_0 s0_1 t104 t105) = some (r1, r2, r3) := by rw [if_neg (show ¬ (false = true) by decide)] at H; exact H
          clear H
          have H := H1
          clear H1
          have H' := Aside0.mk H
          clear H
          obtain ⟨ASz8_0, cSz8_0, ASz8_1, cSz8_1, HGz8, hgz8, HSz8_0, HSz8_1⟩ := HI0.out
          have hcz8_0 := cellS58_0 HGz8
          have hcz8_1 := cellS58_1 HGz8
          have hcz8_2 := cellS58_2 HGz8
          have hcz8_3 := cellS58_3 HGz8
          have hfz8_2 := blk_frozen HGz8 2
          have hfz8_3 := blk_frozen HGz8 3
          clear HGz8 hgz8
          go_wp2_with (first | ((with_reducible refine gate_callee (f := 34) rfl ?_); refine goesL_ (some 20) rfl rfl Try.func34 (by kernel_rfl) rfl #[.pointer (some ⟨g, 0, none⟩), .int .i64 x4_1] rfl (by (try simp only [List.map_toArray, List.map_cons, List.map_nil]); first | done | rfl | (simp only [List.length_drop, List.length_take]; rfl)) ?_; (with_reducible refine (counts_Counts_free.calls g s0_0 s0_1 x1002_1 x1003_1 x4_1 false t104 t105 w0 _ ?side1 ?side2 A4.out).mono ?_); (case side1 => repeat (first | (with_reducible first | exact HI0.out | apply IsS58.alloc | apply IsS58.drewN | apply IsS58.drew | apply IsS58.set_2 | apply IsS58.set_3) | exact HI0.out)); (case side2 => repeat (first | (with_reducible first | exact HB.out | apply below_alloc | apply pw_below_drewN | apply below_drew1 | refine below_set ?_ (IsS58.ge HI0.out)) | exact HB.out)); rintro e w9 ⟨rfl, hi, hb, hk⟩; refine ⟨_, rfl, ?_⟩; have n0_ := Aside0.mk (KeepBut.trans (by repeat (first | (with_reducible first | exact HK.out | apply KeepBut.set_ | apply keep_drewN | apply keep_drew | apply keep_alloc) | exact HK.out)) hk (.inl rfl)); have n1_ := Aside0.mk (hb); have n2_ := Aside0.mk (hi); clear HK; clear HB; clear HI0; have HK := n0_; have HB := n1_; have HI0 := n2_; clear n0_ n1_ n2_; (try clear hb); (try clear hb2); (try clear hk); (try clear hi)))
          go_roundg k1
          case measure => have := HK1.out; omega
          case rel => exact ⟨(x3_1), (wrap64 (x4_1 + 1)), (t104), (t105), (by first | rfl | (simp; done) | (simp [*]; done)), (by first | rfl | (simp; done) | (simp [*]; done)), H', ⟨by have := HK1.out; omega⟩, ⟨by repeat (first | (with_reducible first | exact HI0.out | apply IsS58.alloc | apply IsS58.drewN | apply IsS58.drew | apply IsS58.set_2 | apply IsS58.set_3) | exact HI0.out)⟩, ⟨by repeat (first | (with_reducible first | exact HK.out | apply KeepBut.set_ | apply keep_drewN | apply keep_drew | apply keep_alloc) | exact HK.out)⟩, ⟨by repeat (first | (with_reducible first | exact HB.out | apply below_alloc | apply pw_below_drewN | apply below_drew1 | refine below_set ?_ (IsS58.ge HI0.out)) | exact HB.out)⟩⟩
      · rw [if_neg c3] at H
        have c3b0 : decide (x4_1 < (s0_0.length : Int)) = false := decide_eq_false c3
        clear c3
        simp only [Option.some.injEq, Prod.mk.injEq] at H
        obtain ⟨rfl, rfl, rfl⟩ := H
        obtain ⟨ASz10_0, cSz10_0, ASz10_1, cSz10_1, HGz10, hgz10, HSz10_0, HSz10_1⟩ := HI0.out
        have hcz10_0 := cellS58_0 HGz10
        have hcz10_1 := cellS58_1 HGz10
        have hcz10_2 := cellS58_2 HGz10
        have hcz10_3 := cellS58_3 HGz10
        have hfz10_2 := blk_frozen HGz10 2
        have hfz10_3 := blk_frozen HGz10 3
        clear HGz10 hgz10
        go_wp2
        go_ret
        exact ⟨by first | rfl | (simp [errW_none, errW_some] <;> rfl) | (simp [*, errW_none, errW_some] <;> rfl), by repeat (first | (with_reducible first | exact HI0.out | apply IsS58.alloc | apply IsS58.drewN | apply IsS58.drew | apply IsS58.set_2 | apply IsS58.set_3) | exact HI0.out), by repeat (first | (with_reducible first | exact HB.out | apply below_alloc | apply pw_below_drewN | apply below_drew1 | refine below_set ?_ (IsS58.ge HI0.out)) | exact HB.out), by repeat (first | (with_reducible first | exact HK.out | apply KeepBut.set_ | apply keep_drewN | apply keep_drew | apply keep_alloc) | exact HK.out)⟩

-- NOT PRINTED: function 14 (counts_Counts_Alloc)

/-! ### counts_Counts_Get: function 18 -/
def counts_Counts_Get.f (s0_0 : List Int) (s0_1 : List Int) (s0_2 : Int) (s0_3 : Int) (a1 : Int) : Option (Int × Int × Int) := if a1 < 0 then (some (0, s0_2, s0_3)) else (if a1 ≥ (s0_0.length : Int) then (some (0, s0_2, s0_3)) else (if 0 ≤ a1 then (if a1 < (s0_0.length : Int) then (some (rd s0_0 a1, s0_2, s0_3)) else (none)) else (none)))
set_option maxHeartbeats 8000000 in
set_option maxRecDepth 100000 in
theorem counts_Counts_Get.calls (g : Nat) (s0_0 : List Int) (s0_1 : List Int) (s0_2 : Int) (s0_3 : Int) (a1 : Int) (r1 : Int) (r2 : Int) (r3 : Int) (w0 w : World) (hI : IsS58 w0 w g s0_0 s0_1 s0_2 s0_3) (hB : Below w0.heap.size w0 w) (h : counts_Counts_Get.f s0_0 s0_1 s0_2 s0_3 a1 = some (r1, r2, r3)) :
    Calls Try.prog 18 #[.pointer (some ⟨g, 0, none⟩), .int .i64 a1] w fun e w' => e = .returned (.int .i64 r1) ∧ IsS58 w0 w' g s0_0 s0_1 r2 r3 ∧ Below w0.heap.size w0 w' ∧ KeepBut w w' g none := by
  have HI0 := Aside0.mk hI
  have HK := Aside0.mk (KeepBut.refl w g none)
  have HL := Aside0.mk hB.size
  clear hI
  have HW0 := Aside0.mk hB.size
  have HB := Aside0.mk hB
  clear hB
  have H : (if a1 < 0 then (some (0, s0_2, s0_3)) else (if a1 ≥ (s0_0.length : Int) then (some (0, s0_2, s0_3)) else (if 0 ≤ a1 then (if a1 < (s0_0.length : Int) then (some (rd s0_0 a1, s0_2, s0_3)) else (none)) else (none)))) = some (r1, r2, r3) := h
  clear h
  by_cases c3 : a1 < 0
  · rw [if_pos c3] at H
    have c3b0 : decide (a1 < 0) = true := decide_eq_true c3
    clear c3
    simp only [Option.some.injEq, Prod.mk.injEq] at H
    obtain ⟨rfl, rfl, rfl⟩ := H
    go_enter Try.func18, Try.ntmps18
    go_wp2
    go_ret
    exact ⟨by first | rfl | (simp [errW_none, errW_some] <;> rfl) | (simp [*, errW_none, errW_some] <;> rfl), by repeat (first | (with_reducible first | exact HI0.out | apply IsS58.alloc | apply IsS58.drewN | apply IsS58.drew | apply IsS58.set_2 | apply IsS58.set_3) | exact HI0.out), by repeat (first | (with_reducible first | exact HB.out | apply below_alloc | apply pw_below_drewN | apply below_drew1 | refine below_set ?_ (IsS58.ge HI0.out)) | exact HB.out), by repeat (first | (with_reducible first | exact HK.out | apply KeepBut.set_ | apply keep_drewN | apply keep_drew | apply keep_alloc) | exact HK.out)⟩
  · rw [if_neg c3] at H
    have c3b0 : decide (a1 < 0) = false := decide_eq_false c3
    clear c3
    by_cases c4 : a1 ≥ (s0_0.length : Int)
    · rw [if_pos c4] at H
      have c4b0 : decide ((s0_0.length : Int) ≤ a1) = true := decide_eq_true c4
      clear c4
      simp only [Option.some.injEq, Prod.mk.injEq] at H
      obtain ⟨rfl, rfl, rfl⟩ := H
      obtain ⟨ASz5_0, cSz5_0, ASz5_1, cSz5_1, HGz5, hgz5, HSz5_0, HSz5_1⟩ := HI0.out
      have hcz5_0 := cellS58_0 HGz5
      have hcz5_1 := cellS58_1 HGz5
      have hcz5_2 := cellS58_2 HGz5
      have hcz5_3 := cellS58_3 HGz5
      have hfz5_2 := blk_frozen HGz5 2
      have hfz5_3 := blk_frozen HGz5 3
      clear HGz5 hgz5
      go_enter Try.func18, Try.ntmps18
      go_wp2
      go_ret
      exact ⟨by first | rfl | (simp [errW_none, errW_some] <;> rfl) | (simp [*, errW_none, errW_some] <;> rfl), by repeat (first | (with_reducible first | exact HI0.out | apply IsS58.alloc | apply IsS58.drewN | apply IsS58.drew | apply IsS58.set_2 | apply IsS58.set_3) | exact HI0.out), by repeat (first | (with_reducible first | exact HB.out | apply below_alloc | apply pw_below_drewN | apply below_drew1 | refine below_set ?_ (IsS58.ge HI0.out)) | exact HB.out), by repeat (first | (with_reducible first | exact HK.out | apply KeepBut.set_ | apply keep_drewN | apply keep_drew | apply keep_alloc) | exact HK.out)⟩
    · rw [if_neg c4] at H
      have c4b0 : decide ((s0_0.length : Int) ≤ a1) = false := decide_eq_false c4
      clear c4
      by_cases c6 : 0 ≤ a1
      · rw [if_pos c6] at H
        have c6b0 : decide (0 ≤ a1) = true := decide_eq_true c6
        clear c6
        by_cases c7 : a1 < (s0_0.length : Int)
        · rw [if_pos c7] at H
          have c7b0 : decide (a1 < (s0_0.length : Int)) = true := decide_eq_true c7
          clear c7
          simp only [Option.some.injEq, Prod.mk.injEq] at H
          obtain ⟨rfl, rfl, rfl⟩ := H
          obtain ⟨ASz8_0, cSz8_0, ASz8_1, cSz8_1, HGz8, hgz8, HSz8_0, HSz8_1⟩ := HI0.out
          have hcz8_0 := cellS58_0 HGz8
          have hcz8_1 := cellS58_1 HGz8
          have hcz8_2 := cellS58_2 HGz8
          have hcz8_3 := cellS58_3 HGz8
          have hfz8_2 := blk_frozen HGz8 2
          have hfz8_3 := blk_frozen HGz8 3
          clear HGz8 hgz8
          have p109 : 0 ≤ (a1 : Int) := of_decide_eq_true (by first | (with_reducible assumption) | assumption)
          have q109 : a1 < (s0_0.length : Int) := of_decide_eq_true (by first | (with_reducible assumption) | assumption)
          obtain ⟨ad109, e109, hx109_0⟩ := Kd.at_int HSz8_0 a1 p109 q109
          cases e109
          replace hx109_0 := pw_cell_below HB.out hx109_0
          replace p109 := eq_true p109
          replace q109 := eq_true q109
          go_enter Try.func18, Try.ntmps18
          go_wp2
          go_ret
          exact ⟨by first | rfl | (simp [errW_none, errW_some] <;> rfl) | (simp [*, errW_none, errW_some] <;> rfl), by repeat (first | (with_reducible first | exact HI0.out | apply IsS58.alloc | apply IsS58.drewN | apply IsS58.drew | apply IsS58.set_2 | apply IsS58.set_3) | exact HI0.out), by repeat (first | (with_reducible first | exact HB.out | apply below_alloc | apply pw_below_drewN | apply below_drew1 | refine below_set ?_ (IsS58.ge HI0.out)) | exact HB.out), by repeat (first | (with_reducible first | exact HK.out | apply KeepBut.set_ | apply keep_drewN | apply keep_drew | apply keep_alloc) | exact HK.out)⟩
        · rw [if_neg c7] at H
          exact absurd H (by simp)
      · rw [if_neg c6] at H
        exact absurd H (by simp)

-- NOT PRINTED: function 15 (counts_Counts_Unref)

-- NOT PRINTED: function 16 (counts_Counts_Commit)

-- NOT PRINTED: function 17 (counts_Counts_Ref)

-- NOT PRINTED: function 9 (cambiumlaw08_shown)

/-! ### cambiumlaw08_kind: function 10 -/
def cambiumlaw08_kind.f (a0 : Int) (a1 : Int) : Option (Int) := if a0 < 0 then (if a1 = 0 then (none) else (some (Int.tmod (wrap64 (-(wrap64 (a0 + 1)))) a1))) else (if a1 = 0 then (none) else (some (Int.tmod a0 a1)))
set_option maxHeartbeats 8000000 in
set_option maxRecDepth 100000 in
theorem cambiumlaw08_kind.calls (a0 : Int) (a1 : Int) (r : Int) (w : World) (h : cambiumlaw08_kind.f a0 a1 = some r) :
    Calls Try.prog 10 #[.int .i64 a0, .int .i64 a1] w fun e w' => e = .returned (.int .i64 r) ∧ Drawn0 w w' := by
  have H : (if a0 < 0 then (if a1 = 0 then (none) else (some (Int.tmod (wrap64 (-(wrap64 (a0 + 1)))) a1))) else (if a1 = 0 then (none) else (some (Int.tmod a0 a1)))) = some r := h
  clear h
  by_cases c3 : a0 < 0
  · rw [if_pos c3] at H
    have c3b0 : decide (a0 < 0) = true := decide_eq_true c3
    clear c3
    by_cases c4 : a1 = 0
    · rw [if_pos c4] at H
      exact absurd H (by simp)
    · rw [if_neg c4] at H
      have c4b0 : (a1 == 0) = false := beq_eq_false_iff_ne.mpr c4
      have c4b1 : (a1 != 0) = true := bne_iff_ne.mpr c4
      obtain rfl := Option.some.inj H
      go_enter Try.func10, Try.ntmps10
      go_wp2
      go_ret
      exact ⟨by first | rfl | (simp; done) | (simp [*]; done), by repeat (first | exact Drawn0.refl _ | apply Drawn0.step)⟩
  · rw [if_neg c3] at H
    have c3b0 : decide (a0 < 0) = false := decide_eq_false c3
    clear c3
    by_cases c5 : a1 = 0
    · rw [if_pos c5] at H
      exact absurd H (by simp)
    · rw [if_neg c5] at H
      have c5b0 : (a1 == 0) = false := beq_eq_false_iff_ne.mpr c5
      have c5b1 : (a1 != 0) = true := bne_iff_ne.mpr c5
      obtain rfl := Option.some.inj H
      go_enter Try.func10, Try.ntmps10
      go_wp2
      go_ret
      exact ⟨by first | rfl | (simp; done) | (simp [*]; done), by repeat (first | exact Drawn0.refl _ | apply Drawn0.step)⟩

/-! ### cambiumref07_Areas: function 11 -/
def cambiumref07_Areas.l0 : Nat → Int → Int → Option (Int × Int)
  | 0, _, _ => none
  | k + 1, x0, x4 => if (wrap64 (x4 * 118)) < x0 then (cambiumref07_Areas.l0 k x0 (wrap64 (x4 + 1))) else (some (x4, wrap64 (2 + (wrap64 (2 * x4)))))
def cambiumref07_Areas.f (k : Nat) (a0 : Int) : Option (Int × Int) := cambiumref07_Areas.l0 k a0 0
theorem cambiumref07_Areas.mono_l : ∀ k, (∀ y0 y1, LeO (cambiumref07_Areas.l0 k y0 y1) (cambiumref07_Areas.l0 (k + 1) y0 y1))
  | 0 => fun _ _ r h => absurd (show none = some r from h) (by simp)
  | k + 1 => by
    have ih0 := cambiumref07_Areas.mono_l k
    · intro y0 y1
      unfold cambiumref07_Areas.l0
      repeat' first
      | (with_reducible exact ih0 _ _)
      | (with_reducible exact LeO.refl _)
      | (with_reducible exact LeO.none _)
      | (with_reducible refine LeO.ite ?_ ?_)
      | (with_reducible refine LeO.bind ?_ (fun _ => ?_))
      | exact ih0 _ _
      | exact LeO.none _
      | refine LeO.ite ?_ ?_
      | refine LeO.bind ?_ (fun _ => ?_)
theorem cambiumref07_Areas.mono : ∀ a0 k, LeO (cambiumref07_Areas.f k a0) (cambiumref07_Areas.f (k + 1) a0) := by
  intro a0 k
  have ih0 := cambiumref07_Areas.mono_l k
  unfold cambiumref07_Areas.f
  repeat' first
      | (with_reducible exact ih0 _ _)
      | (with_reducible exact LeO.refl _)
      | (with_reducible exact LeO.none _)
      | (with_reducible refine LeO.ite ?_ ?_)
      | (with_reducible refine LeO.bind ?_ (fun _ => ?_))
      | exact ih0 _ _
      | exact LeO.none _
      | refine LeO.ite ?_ ?_
      | refine LeO.bind ?_ (fun _ => ?_)
set_option maxHeartbeats 8000000 in
set_option maxRecDepth 100000 in
theorem cambiumref07_Areas.calls (k : Nat) (a0 : Int) (r1 : Int) (r2 : Int) (w : World) (h : cambiumref07_Areas.f k a0 = some (r1, r2)) :
    Calls Try.prog 11 #[.int .i64 a0] w fun e w' => e = .returned (.tuple #[.int .i64 r1, .int .i64 r2]) ∧ Drawn0 w w' := by
  have H : (cambiumref07_Areas.l0 k a0 0) = some (r1, r2) := h
  clear h
  have H' := Aside0.mk H
  clear H
  go_enter Try.func11, Try.ntmps11
  go_wp2
  go_loopg [4] k (fun kq v4 w' => ∃ (x4_1 : Int), v4 = .int .i64 x4_1 ∧ Aside0 (cambiumref07_Areas.l0 kq a0 x4_1 = some (r1, r2)) ∧ Aside0 (kq ≤ k) ∧ Drawn0 w w')
  case atStart => exact ⟨(0), (by first | rfl | (simp; done) | (simp [*]; done)), H', ⟨Nat.le_refl _⟩, by repeat (first | exact Drawn0.refl _ | apply Drawn0.step)⟩
  case round =>
    clear H'
    try clear c1
    obtain ⟨x4_1, rfl, HA, HK1, ⟨m1, rfl⟩⟩ := hrel
    cases gk with
    | zero => exact absurd (show none = some _ from HA.out) (by simp)
    | succ k1 =>
      have H := HA.out
      clear HA
      simp only [cambiumref07_Areas.l0] at H
      by_cases c2 : (wrap64 (x4_1 * 118)) < a0
      · rw [if_pos c2] at H
        have c2b0 : decide ((wrap64 (x4_1 * 118)) < a0) = true := decide_eq_true c2
        clear c2
        have H' := Aside0.mk H
        clear H
        go_wp2
        go_roundg k1
        case measure => have := HK1.out; omega
        case rel => exact ⟨(wrap64 (x4_1 + 1)), (by first | rfl | (simp; done) | (simp [*]; done)), H', ⟨by have := HK1.out; omega⟩, by repeat (first | exact Drawn0.refl _ | apply Drawn0.step)⟩
      · rw [if_neg c2] at H
        have c2b0 : decide ((wrap64 (x4_1 * 118)) < a0) = false := decide_eq_false c2
        clear c2
        simp only [Option.some.injEq, Prod.mk.injEq] at H
        obtain ⟨rfl, rfl⟩ := H
        go_wp2
        go_ret2
        exact ⟨by first | rfl | (simp; done) | (simp [*]; done), by repeat (first | exact Drawn0.refl _ | apply Drawn0.step)⟩

-- NOT PRINTED: function 20 (cambiumlaw08_play)

-- NOT PRINTED: function 21 (cambiumref08_New)

/-! ### counts_Counts_Fresh: function 19 -/
def counts_Counts_Fresh.f (s0_0 : List Int) (s0_1 : List Int) (s0_2 : Int) (s0_3 : Int) (a1 : Int) : Option (Bool × Int × Int) := (counts_Counts_Get.f s0_0 s0_1 s0_2 s0_3 a1).bind fun bt120 => (if bt120.1 > 0 then (if 0 ≤ a1 then (if a1 < (s0_1.length : Int) then (some (((rd s0_1 a1) == 0), bt120.2.1, bt120.2.2)) else (none)) else (none)) else (some (false, bt120.2.1, bt120.2.2)))
set_option maxHeartbeats 8000000 in
set_option maxRecDepth 100000 in
theorem counts_Counts_Fresh.calls (g : Nat) (s0_0 : List Int) (s0_1 : List Int) (s0_2 : Int) (s0_3 : Int) (a1 : Int) (r1 : Bool) (r2 : Int) (r3 : Int) (w0 w : World) (hI : IsS58 w0 w g s0_0 s0_1 s0_2 s0_3) (hB : Below w0.heap.size w0 w) (h : counts_Counts_Fresh.f s0_0 s0_1 s0_2 s0_3 a1 = some (r1, r2, r3)) :
    Calls Try.prog 19 #[.pointer (some ⟨g, 0, none⟩), .int .i64 a1] w fun e w' => e = .returned (.bool r1) ∧ IsS58 w0 w' g s0_0 s0_1 r2 r3 ∧ Below w0.heap.size w0 w' ∧ KeepBut w w' g none := by
  have HI0 := Aside0.mk hI
  have HK := Aside0.mk (KeepBut.refl w g none)
  have HL := Aside0.mk hB.size
  clear hI
  have HW0 := Aside0.mk hB.size
  have HB := Aside0.mk hB
  clear hB
  have H : ((counts_Counts_Get.f s0_0 s0_1 s0_2 s0_3 a1).bind fun bt120 => (if bt120.1 > 0 then (if 0 ≤ a1 then (if a1 < (s0_1.length : Int) then (some (((rd s0_1 a1) == 0), bt120.2.1, bt120.2.2)) else (none)) else (none)) else (some (false, bt120.2.1, bt120.2.2)))) = some (r1, r2, r3) := h
  clear h
  replace H := Option.bind_eq_some_iff.mp H
  obtain ⟨⟨t120, t121, t122⟩, A30, H⟩ := H
  replace H : (if t120 > 0 then (if 0 ≤ a1 then (if a1 < (s0_1.length : Int) then (some (((rd s0_1 a1) == 0), t121, t122)) else (none)) else (none)) else (some (false, t121, t122))) = some (r1, r2, r3) := H
  have A3 := Aside0.mk A30
  clear A30
  by_cases c4 : t120 > 0
  · rw [if_pos c4] at H
    have c4b0 : decide (0 < t120) = true := decide_eq_true c4
    clear c4
    by_cases c5 : 0 ≤ a1
    · rw [if_pos c5] at H
      have c5b0 : decide (0 ≤ a1) = true := decide_eq_true c5
      clear c5
      by_cases c6 : a1 < (s0_1.length : Int)
      · rw [if_pos c6] at H
        have c6b0 : decide (a1 < (s0_1.length : Int)) = true := decide_eq_true c6
        clear c6
        simp only [Option.some.injEq, Prod.mk.injEq] at H
        obtain ⟨rfl, rfl, rfl⟩ := H
        go_enter Try.func19, Try.ntmps19
        go_wp2_with (first | ((with_reducible refine gate_callee (f := 18) rfl ?_); refine goesL_ (some 7) rfl rfl Try.func18 (by kernel_rfl) rfl #[.pointer (some ⟨g, 0, none⟩), .int .i64 a1] rfl (by (try simp only [List.map_toArray, List.map_cons, List.map_nil]); first | done | rfl | (simp only [List.length_drop, List.length_take]; rfl)) ?_; (with_reducible refine (counts_Counts_Get.calls g s0_0 s0_1 s0_2 s0_3 a1 t120 t121 t122 w0 _ ?side1 ?side2 A3.out).mono ?_); (case side1 => repeat (first | (with_reducible first | exact HI0.out | apply IsS58.alloc | apply IsS58.drewN | apply IsS58.drew | apply IsS58.set_2 | apply IsS58.set_3) | exact HI0.out)); (case side2 => repeat (first | (with_reducible first | exact HB.out | apply below_alloc | apply pw_below_drewN | apply below_drew1 | refine below_set ?_ (IsS58.ge HI0.out)) | exact HB.out)); rintro e w7 ⟨rfl, hi, hb, hk⟩; refine ⟨_, rfl, ?_⟩; have n0_ := Aside0.mk (KeepBut.trans (by repeat (first | (with_reducible first | exact HK.out | apply KeepBut.set_ | apply keep_drewN | apply keep_drew | apply keep_alloc) | exact HK.out)) hk (.inl rfl)); have n1_ := Aside0.mk (hb); have n2_ := Aside0.mk (hi); clear HK; clear HB; clear HI0; have HK := n0_; have HB := n1_; have HI0 := n2_; clear n0_ n1_ n2_; (try clear hb); (try clear hb2); (try clear hk); (try clear hi); obtain ⟨ASz8_0, cSz8_0, ASz8_1, cSz8_1, HGz8, hgz8, HSz8_0, HSz8_1⟩ := HI0.out; have hcz8_0 := cellS58_0 HGz8; have hcz8_1 := cellS58_1 HGz8; have hcz8_2 := cellS58_2 HGz8; have hcz8_3 := cellS58_3 HGz8; have hfz8_2 := blk_frozen HGz8 2; have hfz8_3 := blk_frozen HGz8 3; clear HGz8 hgz8; have p123 : 0 ≤ (a1 : Int) := of_decide_eq_true (by first | (with_reducible assumption) | assumption); have q123 : a1 < (s0_1.length : Int) := of_decide_eq_true (by first | (with_reducible assumption) | assumption); obtain ⟨ad123, e123, hx123_0⟩ := Kd.at_int HSz8_1 a1 p123 q123; cases e123; replace hx123_0 := pw_cell_below HB.out hx123_0; replace p123 := eq_true p123; replace q123 := eq_true q123))
        go_ret
        exact ⟨by first | rfl | (simp [errW_none, errW_some] <;> rfl) | (simp [*, errW_none, errW_some] <;> rfl), by repeat (first | (with_reducible first | exact HI0.out | apply IsS58.alloc | apply IsS58.drewN | apply IsS58.drew | apply IsS58.set_2 | apply IsS58.set_3) | exact HI0.out), by repeat (first | (with_reducible first | exact HB.out | apply below_alloc | apply pw_below_drewN | apply below_drew1 | refine below_set ?_ (IsS58.ge HI0.out)) | exact HB.out), by repeat (first | (with_reducible first | exact HK.out | apply KeepBut.set_ | apply keep_drewN | apply keep_drew | apply keep_alloc) | exact HK.out)⟩
      · rw [if_neg c6] at H
        exact absurd H (by simp)
    · rw [if_neg c5] at H
      exact absurd H (by simp)
  · rw [if_neg c4] at H
    have c4b0 : decide (0 < t120) = false := decide_eq_false c4
    clear c4
    simp only [Option.some.injEq, Prod.mk.injEq] at H
    obtain ⟨rfl, rfl, rfl⟩ := H
    go_enter Try.func19, Try.ntmps19
    go_wp2_with (first | ((with_reducible refine gate_callee (f := 18) rfl ?_); refine goesL_ (some 7) rfl rfl Try.func18 (by kernel_rfl) rfl #[.pointer (some ⟨g, 0, none⟩), .int .i64 a1] rfl (by (try simp only [List.map_toArray, List.map_cons, List.map_nil]); first | done | rfl | (simp only [List.length_drop, List.length_take]; rfl)) ?_; (with_reducible refine (counts_Counts_Get.calls g s0_0 s0_1 s0_2 s0_3 a1 t120 t121 t122 w0 _ ?side1 ?side2 A3.out).mono ?_); (case side1 => repeat (first | (with_reducible first | exact HI0.out | apply IsS58.alloc | apply IsS58.drewN | apply IsS58.drew | apply IsS58.set_2 | apply IsS58.set_3) | exact HI0.out)); (case side2 => repeat (first | (with_reducible first | exact HB.out | apply below_alloc | apply pw_below_drewN | apply below_drew1 | refine below_set ?_ (IsS58.ge HI0.out)) | exact HB.out)); rintro e w9 ⟨rfl, hi, hb, hk⟩; refine ⟨_, rfl, ?_⟩; have n0_ := Aside0.mk (KeepBut.trans (by repeat (first | (with_reducible first | exact HK.out | apply KeepBut.set_ | apply keep_drewN | apply keep_drew | apply keep_alloc) | exact HK.out)) hk (.inl rfl)); have n1_ := Aside0.mk (hb); have n2_ := Aside0.mk (hi); clear HK; clear HB; clear HI0; have HK := n0_; have HB := n1_; have HI0 := n2_; clear n0_ n1_ n2_; (try clear hb); (try clear hb2); (try clear hk); (try clear hi)))
    go_ret
    exact ⟨by first | rfl | (simp [errW_none, errW_some] <;> rfl) | (simp [*, errW_none, errW_some] <;> rfl), by repeat (first | (with_reducible first | exact HI0.out | apply IsS58.alloc | apply IsS58.drewN | apply IsS58.drew | apply IsS58.set_2 | apply IsS58.set_3) | exact HI0.out), by repeat (first | (with_reducible first | exact HB.out | apply below_alloc | apply pw_below_drewN | apply below_drew1 | refine below_set ?_ (IsS58.ge HI0.out)) | exact HB.out), by repeat (first | (with_reducible first | exact HK.out | apply KeepBut.set_ | apply keep_drewN | apply keep_drew | apply keep_alloc) | exact HK.out)⟩

/-- A state of type 60 at block g of W; what its slices lead to came in by w0. -/
def IsS60 (w0 W : World) (g : Nat) (f0 : List Int) (f1 : List Int) : Prop := ∃ A0 c0, ∃ A1 c1, W.heap[g]? = some (.cells #[.slice A0 f0.length c0, .slice A1 f1.length c1] 60 (0, 0)) ∧ w0.heap.size ≤ g ∧ Kd.C (Kd.int .i64) w0 A0 f0.length f0 ∧ Kd.C (Kd.int .i64) w0 A1 f1.length f1
theorem IsS60.grown {w0 W : World} {g : Nat} {f0 : List Int} {f1 : List Int} {W1 : World} {row : Option Nat} (h : IsS60 w0 W g f0 f1) (hw : W.grownBy W1 row) (hne : some g ≠ row) : IsS60 w0 W1 g f0 f1 := by
  obtain ⟨A0, c0, A1, c1, hb, hg, hr0, hr1⟩ := h
  exact ⟨A0, c0, A1, c1, blk_grown hb hw hne, hg, hr0, hr1⟩
theorem IsS60.own_neN {w0 W : World} {g : Nat} {f0 : List Int} {f1 : List Int} {α : Type} {d : Kd α} {e : Nat} {base : Nat} {ok : Nat → Prop} {v : Value} {xs : List α} (h : IsS60 w0 W g f0 f1) (ho : Kd.N d e W base ok v xs) (ht : e ≠ 60) : some g ≠ v.ownBlock := by
  obtain ⟨A0, c0, A1, c1, hb, hg, hr0, hr1⟩ := h
  exact Kd.N_ne ho hb ht
theorem IsS60.fresh {w0 W : World} {g : Nat} {f0 : List Int} {f1 : List Int} (h : IsS60 w0 W g f0 f1) : ∀ k, W.heap.size ≤ k → k ≠ g := by
  obtain ⟨A0, c0, A1, c1, hb, hg, hr0, hr1⟩ := h
  exact Kd.freshB hb
theorem IsS60.kept {w0 W : World} {g : Nat} {f0 : List Int} {f1 : List Int} {W1 : World} {S : Nat → Prop} (h : IsS60 w0 W g f0 f1) (hk : Kept W W1 S) (hne : ¬ S g) : IsS60 w0 W1 g f0 f1 := by
  obtain ⟨A0, c0, A1, c1, hb, hg, hr0, hr1⟩ := h
  exact ⟨A0, c0, A1, c1, blk_kept hb hk hne, hg, hr0, hr1⟩
theorem IsS60.below {w0 W : World} {g : Nat} {f0 : List Int} {f1 : List Int} {W1 : World} (h : IsS60 w0 W g f0 f1) (hw : Below W.heap.size W W1) : IsS60 w0 W1 g f0 f1 := h.grown (grown_of_below hw none) (by simp)
theorem IsS60.alloc {w0 W : World} {g : Nat} {f0 : List Int} {f1 : List Int} (h : IsS60 w0 W g f0 f1) (o : Obj) : IsS60 w0 (W.alloc o) g f0 f1 := h.below (below_alloc (Below.refl _ _) o)
theorem IsS60.drewN {w0 W : World} {g : Nat} {f0 : List Int} {f1 : List Int} (h : IsS60 w0 W g f0 f1) (m : Nat) : IsS60 w0 (W.drewN m) g f0 f1 := h
theorem IsS60.drew {w0 W : World} {g : Nat} {f0 : List Int} {f1 : List Int} (h : IsS60 w0 W g f0 f1) : IsS60 w0 W.drew g f0 f1 := h
theorem IsS60.at_ {w0 W : World} {g : Nat} {f0 : List Int} {f1 : List Int} {w' : World} {m : Nat} (hq : W.drewN m = w') (h : IsS60 w0 W g f0 f1) : IsS60 w0 w' g f0 f1 := by subst hq; exact IsS60.drewN h m
theorem IsS60.apart {w0 W : World} {g : Nat} {f0 : List Int} {f1 : List Int} {α : Type} {d : Kd α} {e : Nat} {base : Nat} {ok : Nat → Prop} {v : Value} {xs : List α} (h : IsS60 w0 W g f0 f1) (ho : d.R e W base ok v xs) (ht : ∀ q, q ∈ e :: d.E → q ≠ 60) : d.R e W base (fun k => ok k ∧ k ≠ g) v xs := by
  obtain ⟨A0, c0, A1, c1, hb, hg, hr0, hr1⟩ := h
  exact Kd.R_types ho hb ht
theorem IsS60.own_ne {w0 W : World} {g : Nat} {f0 : List Int} {f1 : List Int} {α : Type} {d : Kd α} {e : Nat} {base : Nat} {ok : Nat → Prop} {v : Value} {xs : List α} (h : IsS60 w0 W g f0 f1) (ho : d.R e W base ok v xs) (ht : e ≠ 60) : some g ≠ v.ownBlock := by
  obtain ⟨A0, c0, A1, c1, hb, hg, hr0, hr1⟩ := h
  exact Kd.R_ne ho hb ht
theorem IsS60.apartQ {w0 W : World} {g : Nat} {f0 : List Int} {f1 : List Int} {α : Type} {d : Kd α} {e : Nat} {base : Nat} {ok : Nat → Prop} {v : Value} {xs : List α} (h : IsS60 w0 W g f0 f1) (ho : d.Q e W base ok v xs) (ht : ∀ q, q ∈ e :: d.E → q ≠ 60) : d.Q e W base (fun k => ok k ∧ k ≠ g) v xs := by
  obtain ⟨A0, c0, A1, c1, hb, hg, hr0, hr1⟩ := h
  exact Kd.Q_types ho hb ht
theorem IsS60.own_neQ {w0 W : World} {g : Nat} {f0 : List Int} {f1 : List Int} {α : Type} {d : Kd α} {e : Nat} {base : Nat} {ok : Nat → Prop} {v : Value} {xs : List α} (h : IsS60 w0 W g f0 f1) (ho : d.Q e W base ok v xs) (ht : e ≠ 60) : some g ≠ v.ownBlock := by
  obtain ⟨A0, c0, A1, c1, hb, hg, hr0, hr1⟩ := h
  exact Kd.Q_ne ho hb ht
theorem IsS60.apartS {w0 W : World} {g : Nat} {f0 : List Int} {f1 : List Int} {α : Type} {d : Kd α} {e : Nat} {base : Nat} {ok : Nat → Prop} {v : Value} {xs : List α} (h : IsS60 w0 W g f0 f1) (ho : d.S e W base ok v xs) (ht : ∀ q, q ∈ e :: d.E → q ≠ 60) : d.S e W base (fun k => ok k ∧ k ≠ g) v xs := by
  obtain ⟨A0, c0, A1, c1, hb, hg, hr0, hr1⟩ := h
  exact Kd.S_types ho hb ht
theorem IsS60.own_neS {w0 W : World} {g : Nat} {f0 : List Int} {f1 : List Int} {α : Type} {d : Kd α} {e : Nat} {base : Nat} {ok : Nat → Prop} {v : Value} {xs : List α} (h : IsS60 w0 W g f0 f1) (ho : d.S e W base ok v xs) (ht : e ≠ 60) : some g ≠ v.ownBlock := by
  obtain ⟨A0, c0, A1, c1, hb, hg, hr0, hr1⟩ := h
  exact Kd.S_ne ho hb ht
theorem IsS60.lt {w0 W : World} {g : Nat} {f0 : List Int} {f1 : List Int} (h : IsS60 w0 W g f0 f1) : g < W.heap.size := by
  obtain ⟨A0, c0, A1, c1, hb, hg, hr0, hr1⟩ := h
  exact blk_lt hb
theorem IsS60.ge {w0 W : World} {g : Nat} {f0 : List Int} {f1 : List Int} (h : IsS60 w0 W g f0 f1) : w0.heap.size ≤ g := by
  obtain ⟨A0, c0, A1, c1, hb, hg, hr0, hr1⟩ := h
  exact hg
theorem IsS60.ne_blk {w0 W : World} {g : Nat} {f0 : List Int} {f1 : List Int} {a : Nat} {cs : Array Value} {t : TypeId} {fr : Nat × Nat} (h : IsS60 w0 W g f0 f1) (hb2 : W.heap[a]? = some (.cells cs t fr)) (ht : t ≠ 60) : g ≠ a := by
  obtain ⟨A0, c0, A1, c1, hb, hg, hr0, hr1⟩ := h
  rintro rfl
  rw [hb] at hb2
  injection hb2 with hb2
  injection hb2 with _ ht2
  exact ht ht2.symm
theorem IsS60.far {w0 W : World} {g : Nat} {f0 : List Int} {f1 : List Int} {p : Addr} (h : IsS60 w0 W g f0 f1) (hne : g ≠ p.block) (u : Value) : IsS60 w0 (W.setCell p u) g f0 f1 := by
  obtain ⟨A0, c0, A1, c1, hb, hg, hr0, hr1⟩ := h
  exact ⟨A0, c0, A1, c1, blk_far hb hne u, hg, hr0, hr1⟩
theorem cellS60_0 {W : World} {g : Nat} {A0 : Option Addr} {c0 : Nat} {A1 : Option Addr} {c1 : Nat} {f0 : List Int} {f1 : List Int} (h : W.heap[g]? = some (.cells #[.slice A0 f0.length c0, .slice A1 f1.length c1] 60 (0, 0))) : W.cell? ⟨g, 0, none⟩ = some (.slice A0 f0.length c0) := (blk_cell h 0).trans rfl
theorem cellS60_1 {W : World} {g : Nat} {A0 : Option Addr} {c0 : Nat} {A1 : Option Addr} {c1 : Nat} {f0 : List Int} {f1 : List Int} (h : W.heap[g]? = some (.cells #[.slice A0 f0.length c0, .slice A1 f1.length c1] 60 (0, 0))) : W.cell? ⟨g, 1, none⟩ = some (.slice A1 f1.length c1) := (blk_cell h 1).trans rfl
theorem IsS60.new (w0 W : World) (A0 : Option Addr) (c0 : Nat) (A1 : Option Addr) (c1 : Nat) (f0 : List Int) (f1 : List Int) (hB : Below w0.heap.size w0 W) (hr0 : Kd.C (Kd.int .i64) w0 A0 f0.length f0) (hr1 : Kd.C (Kd.int .i64) w0 A1 f1.length f1) : IsS60 w0 (W.alloc (.cells #[.slice A0 f0.length c0, .slice A1 f1.length c1] 60)) W.heap.size f0 f1 := ⟨A0, c0, A1, c1, by simpa using heap_alloc_new W _, hB.size, hr0, hr1⟩

/-! ### cambiumref08_Counts_Get: function 36 -/
def cambiumref08_Counts_Get.f (s0_0 : List Int) (s0_1 : List Int) (a1 : Int) : Option (Int) := if a1 < 0 then (some 0) else (if a1 ≥ (s0_0.length : Int) then (some 0) else (if 0 ≤ a1 then (if a1 < (s0_0.length : Int) then (some (rd s0_0 a1)) else (none)) else (none)))
set_option maxHeartbeats 8000000 in
set_option maxRecDepth 100000 in
theorem cambiumref08_Counts_Get.calls (g : Nat) (s0_0 : List Int) (s0_1 : List Int) (a1 : Int) (r : Int) (w0 w : World) (hI : IsS60 w0 w g s0_0 s0_1) (hB : Below w0.heap.size w0 w) (h : cambiumref08_Counts_Get.f s0_0 s0_1 a1 = some r) :
    Calls Try.prog 36 #[.pointer (some ⟨g, 0, none⟩), .int .i64 a1] w fun e w' => e = .returned (.int .i64 r) ∧ IsS60 w0 w' g s0_0 s0_1 ∧ Below w0.heap.size w0 w' ∧ KeepBut w w' g none := by
  have HI0 := Aside0.mk hI
  have HK := Aside0.mk (KeepBut.refl w g none)
  have HL := Aside0.mk hB.size
  clear hI
  have HW0 := Aside0.mk hB.size
  have HB := Aside0.mk hB
  clear hB
  have H : (if a1 < 0 then (some 0) else (if a1 ≥ (s0_0.length : Int) then (some 0) else (if 0 ≤ a1 then (if a1 < (s0_0.length : Int) then (some (rd s0_0 a1)) else (none)) else (none)))) = some r := h
  clear h
  by_cases c3 : a1 < 0
  · rw [if_pos c3] at H
    have c3b0 : decide (a1 < 0) = true := decide_eq_true c3
    clear c3
    obtain rfl := Option.some.inj H
    go_enter Try.func36, Try.ntmps36
    go_wp2
    go_ret
    exact ⟨by first | rfl | (simp [errW_none, errW_some] <;> rfl) | (simp [*, errW_none, errW_some] <;> rfl), by repeat (first | (with_reducible first | exact HI0.out | apply IsS60.alloc | apply IsS60.drewN | apply IsS60.drew) | exact HI0.out), by repeat (first | (with_reducible first | exact HB.out | apply below_alloc | apply pw_below_drewN | apply below_drew1 | refine below_set ?_ (IsS60.ge HI0.out)) | exact HB.out), by repeat (first | (with_reducible first | exact HK.out | apply KeepBut.set_ | apply keep_drewN | apply keep_drew | apply keep_alloc) | exact HK.out)⟩
  · rw [if_neg c3] at H
    have c3b0 : decide (a1 < 0) = false := decide_eq_false c3
    clear c3
    by_cases c4 : a1 ≥ (s0_0.length : Int)
    · rw [if_pos c4] at H
      have c4b0 : decide ((s0_0.length : Int) ≤ a1) = true := decide_eq_true c4
      clear c4
      obtain rfl := Option.some.inj H
      obtain ⟨ASz5_0, cSz5_0, ASz5_1, cSz5_1, HGz5, hgz5, HSz5_0, HSz5_1⟩ := HI0.out
      have hcz5_0 := cellS60_0 HGz5
      have hcz5_1 := cellS60_1 HGz5
      clear HGz5 hgz5
      go_enter Try.func36, Try.ntmps36
      go_wp2
      go_ret
      exact ⟨by first | rfl | (simp [errW_none, errW_some] <;> rfl) | (simp [*, errW_none, errW_some] <;> rfl), by repeat (first | (with_reducible first | exact HI0.out | apply IsS60.alloc | apply IsS60.drewN | apply IsS60.drew) | exact HI0.out), by repeat (first | (with_reducible first | exact HB.out | apply below_alloc | apply pw_below_drewN | apply below_drew1 | refine below_set ?_ (IsS60.ge HI0.out)) | exact HB.out), by repeat (first | (with_reducible first | exact HK.out | apply KeepBut.set_ | apply keep_drewN | apply keep_drew | apply keep_alloc) | exact HK.out)⟩
    · rw [if_neg c4] at H
      have c4b0 : decide ((s0_0.length : Int) ≤ a1) = false := decide_eq_false c4
      clear c4
      by_cases c6 : 0 ≤ a1
      · rw [if_pos c6] at H
        have c6b0 : decide (0 ≤ a1) = true := decide_eq_true c6
        clear c6
        by_cases c7 : a1 < (s0_0.length : Int)
        · rw [if_pos c7] at H
          have c7b0 : decide (a1 < (s0_0.length : Int)) = true := decide_eq_true c7
          clear c7
          obtain rfl := Option.some.inj H
          obtain ⟨ASz8_0, cSz8_0, ASz8_1, cSz8_1, HGz8, hgz8, HSz8_0, HSz8_1⟩ := HI0.out
          have hcz8_0 := cellS60_0 HGz8
          have hcz8_1 := cellS60_1 HGz8
          clear HGz8 hgz8
          have p124 : 0 ≤ (a1 : Int) := of_decide_eq_true (by first | (with_reducible assumption) | assumption)
          have q124 : a1 < (s0_0.length : Int) := of_decide_eq_true (by first | (with_reducible assumption) | assumption)
          obtain ⟨ad124, e124, hx124_0⟩ := Kd.at_int HSz8_0 a1 p124 q124
          cases e124
          replace hx124_0 := pw_cell_below HB.out hx124_0
          replace p124 := eq_true p124
          replace q124 := eq_true q124
          go_enter Try.func36, Try.ntmps36
          go_wp2
          go_ret
          exact ⟨by first | rfl | (simp [errW_none, errW_some] <;> rfl) | (simp [*, errW_none, errW_some] <;> rfl), by repeat (first | (with_reducible first | exact HI0.out | apply IsS60.alloc | apply IsS60.drewN | apply IsS60.drew) | exact HI0.out), by repeat (first | (with_reducible first | exact HB.out | apply below_alloc | apply pw_below_drewN | apply below_drew1 | refine below_set ?_ (IsS60.ge HI0.out)) | exact HB.out), by repeat (first | (with_reducible first | exact HK.out | apply KeepBut.set_ | apply keep_drewN | apply keep_drew | apply keep_alloc) | exact HK.out)⟩
        · rw [if_neg c7] at H
          exact absurd H (by simp)
      · rw [if_neg c6] at H
        exact absurd H (by simp)

/-! ### cambiumref08_Counts_First: function 35 -/
def cambiumref08_Counts_First.f (k : Nat) (s0_0 : List Int) (s0_1 : List Int) : Option (Int) := (cambiumref07_Areas.f k (s0_0.length : Int)).bind fun bt125 => (some bt125.2)
theorem cambiumref08_Counts_First.mono : ∀ a0 a1 k, LeO (cambiumref08_Counts_First.f k a0 a1) (cambiumref08_Counts_First.f (k + 1) a0 a1) := by
  intro a0 a1 k
  unfold cambiumref08_Counts_First.f
  repeat' first
      | (with_reducible exact cambiumref07_Areas.mono _ _)
      | (with_reducible exact LeO.refl _)
      | (with_reducible exact LeO.none _)
      | (with_reducible refine LeO.ite ?_ ?_)
      | (with_reducible refine LeO.bind ?_ (fun _ => ?_))
      | exact cambiumref07_Areas.mono _ _
      | exact LeO.none _
      | refine LeO.ite ?_ ?_
      | refine LeO.bind ?_ (fun _ => ?_)
set_option maxHeartbeats 8000000 in
set_option maxRecDepth 100000 in
theorem cambiumref08_Counts_First.calls (k : Nat) (g : Nat) (s0_0 : List Int) (s0_1 : List Int) (r : Int) (w0 w : World) (hI : IsS60 w0 w g s0_0 s0_1) (hB : Below w0.heap.size w0 w) (h : cambiumref08_Counts_First.f k s0_0 s0_1 = some r) :
    Calls Try.prog 35 #[.pointer (some ⟨g, 0, none⟩)] w fun e w' => e = .returned (.int .i64 r) ∧ IsS60 w0 w' g s0_0 s0_1 ∧ Below w0.heap.size w0 w' ∧ KeepBut w w' g none := by
  have HI0 := Aside0.mk hI
  have HK := Aside0.mk (KeepBut.refl w g none)
  have HL := Aside0.mk hB.size
  clear hI
  have HW0 := Aside0.mk hB.size
  have HB := Aside0.mk hB
  clear hB
  have H : ((cambiumref07_Areas.f k (s0_0.length : Int)).bind fun bt125 => (some bt125.2)) = some r := h
  clear h
  replace H := Option.bind_eq_some_iff.mp H
  obtain ⟨⟨t125, t126⟩, A20, H⟩ := H
  replace H : (some t126) = some r := H
  have A2 := Aside0.mk A20
  clear A20
  obtain rfl := Option.some.inj H
  obtain ⟨ASz3_0, cSz3_0, ASz3_1, cSz3_1, HGz3, hgz3, HSz3_0, HSz3_1⟩ := HI0.out
  have hcz3_0 := cellS60_0 HGz3
  have hcz3_1 := cellS60_1 HGz3
  clear HGz3 hgz3
  go_enter Try.func35, Try.ntmps35
  go_wp2_with (first | ((with_reducible refine gate_callee (f := 11) rfl ?_); refine goesL_ (some 11) rfl rfl Try.func11 (by kernel_rfl) rfl #[.int .i64 (s0_0.length : Int)] rfl (by (try simp only [List.map_toArray, List.map_cons, List.map_nil]); first | done | rfl | (simp only [List.length_drop, List.length_take]; rfl)) ?_; (with_reducible refine (cambiumref07_Areas.calls k (s0_0.length : Int) t125 t126 _ A2.out).mono ?_); rintro e w' ⟨rfl, ⟨nd, rfl⟩⟩; refine ⟨_, rfl, ?_⟩))
  go_ret
  exact ⟨by first | rfl | (simp [errW_none, errW_some] <;> rfl) | (simp [*, errW_none, errW_some] <;> rfl), by repeat (first | (with_reducible first | exact HI0.out | apply IsS60.alloc | apply IsS60.drewN | apply IsS60.drew) | exact HI0.out), by repeat (first | (with_reducible first | exact HB.out | apply below_alloc | apply pw_below_drewN | apply below_drew1 | refine below_set ?_ (IsS60.ge HI0.out)) | exact HB.out), by repeat (first | (with_reducible first | exact HK.out | apply KeepBut.set_ | apply keep_drewN | apply keep_drew | apply keep_alloc) | exact HK.out)⟩

-- NOT PRINTED: function 38 (cambiumref08_Counts_Free)

/-! ### cambiumref08_Counts_Fresh: function 39 -/
def cambiumref08_Counts_Fresh.f (s0_0 : List Int) (s0_1 : List Int) (a1 : Int) : Option (Bool) := (cambiumref08_Counts_Get.f s0_0 s0_1 a1).bind fun t130 => (if t130 = 0 then (some false) else (if 0 ≤ a1 then (if a1 < (s0_1.length : Int) then (some ((rd s0_1 a1) == 0)) else (none)) else (none)))
set_option maxHeartbeats 8000000 in
set_option maxRecDepth 100000 in
theorem cambiumref08_Counts_Fresh.calls (g : Nat) (s0_0 : List Int) (s0_1 : List Int) (a1 : Int) (r : Bool) (w0 w : World) (hI : IsS60 w0 w g s0_0 s0_1) (hB : Below w0.heap.size w0 w) (h : cambiumref08_Counts_Fresh.f s0_0 s0_1 a1 = some r) :
    Calls Try.prog 39 #[.pointer (some ⟨g, 0, none⟩), .int .i64 a1] w fun e w' => e = .returned (.bool r) ∧ IsS60 w0 w' g s0_0 s0_1 ∧ Below w0.heap.size w0 w' ∧ KeepBut w w' g none := by
  have HI0 := Aside0.mk hI
  have HK := Aside0.mk (KeepBut.refl w g none)
  have HL := Aside0.mk hB.size
  clear hI
  have HW0 := Aside0.mk hB.size
  have HB := Aside0.mk hB
  clear hB
  have H : ((cambiumref08_Counts_Get.f s0_0 s0_1 a1).bind fun t130 => (if t130 = 0 then (some false) else (if 0 ≤ a1 then (if a1 < (s0_1.length : Int) then (some ((rd s0_1 a1) == 0)) else (none)) else (none)))) = some r := h
  clear h
  replace H := Option.bind_eq_some_iff.mp H
  obtain ⟨t130, A30, H⟩ := H
  replace H : (if t130 = 0 then (some false) else (if 0 ≤ a1 then (if a1 < (s0_1.length : Int) then (some ((rd s0_1 a1) == 0)) else (none)) else (none))) = some r := H
  have A3 := Aside0.mk A30
  clear A30
  by_cases c4 : t130 = 0
  · rw [if_pos c4] at H
    have c4b0 : (t130 == 0) = true := beq_iff_eq.mpr c4
    have c4b1 : (t130 != 0) = false := bne_eq_false_iff_eq.mpr c4
    clear c4
    obtain rfl := Option.some.inj H
    go_enter Try.func39, Try.ntmps39
    go_wp2_with (first | ((with_reducible refine gate_callee (f := 36) rfl ?_); refine goesL_ (some 8) rfl rfl Try.func36 (by kernel_rfl) rfl #[.pointer (some ⟨g, 0, none⟩), .int .i64 a1] rfl (by (try simp only [List.map_toArray, List.map_cons, List.map_nil]); first | done | rfl | (simp only [List.length_drop, List.length_take]; rfl)) ?_; (with_reducible refine (cambiumref08_Counts_Get.calls g s0_0 s0_1 a1 t130 w0 _ ?side1 ?side2 A3.out).mono ?_); (case side1 => repeat (first | (with_reducible first | exact HI0.out | apply IsS60.alloc | apply IsS60.drewN | apply IsS60.drew) | exact HI0.out)); (case side2 => repeat (first | (with_reducible first | exact HB.out | apply below_alloc | apply pw_below_drewN | apply below_drew1 | refine below_set ?_ (IsS60.ge HI0.out)) | exact HB.out)); rintro e w5 ⟨rfl, hi, hb, hk⟩; refine ⟨_, rfl, ?_⟩; have n0_ := Aside0.mk (KeepBut.trans (by repeat (first | (with_reducible first | exact HK.out | apply KeepBut.set_ | apply keep_drewN | apply keep_drew | apply keep_alloc) | exact HK.out)) hk (.inl rfl)); have n1_ := Aside0.mk (hb); have n2_ := Aside0.mk (hi); clear HK; clear HB; clear HI0; have HK := n0_; have HB := n1_; have HI0 := n2_; clear n0_ n1_ n2_; (try clear hb); (try clear hb2); (try clear hk); (try clear hi)))
    go_ret
    exact ⟨by first | rfl | (simp [errW_none, errW_some] <;> rfl) | (simp [*, errW_none, errW_some] <;> rfl), by repeat (first | (with_reducible first | exact HI0.out | apply IsS60.alloc | apply IsS60.drewN | apply IsS60.drew) | exact HI0.out), by repeat (first | (with_reducible first | exact HB.out | apply below_alloc | apply pw_below_drewN | apply below_drew1 | refine below_set ?_ (IsS60.ge HI0.out)) | exact HB.out), by repeat (first | (with_reducible first | exact HK.out | apply KeepBut.set_ | apply keep_drewN | apply keep_drew | apply keep_alloc) | exact HK.out)⟩
  · rw [if_neg c4] at H
    have c4b0 : (t130 == 0) = false := beq_eq_false_iff_ne.mpr c4
    have c4b1 : (t130 != 0) = true := bne_iff_ne.mpr c4
    by_cases c6 : 0 ≤ a1
    · rw [if_pos c6] at H
      have c6b0 : decide (0 ≤ a1) = true := decide_eq_true c6
      clear c6
      by_cases c7 : a1 < (s0_1.length : Int)
      · rw [if_pos c7] at H
        have c7b0 : decide (a1 < (s0_1.length : Int)) = true := decide_eq_true c7
        clear c7
        obtain rfl := Option.some.inj H
        go_enter Try.func39, Try.ntmps39
        go_wp2_with (first | ((with_reducible refine gate_callee (f := 36) rfl ?_); refine goesL_ (some 8) rfl rfl Try.func36 (by kernel_rfl) rfl #[.pointer (some ⟨g, 0, none⟩), .int .i64 a1] rfl (by (try simp only [List.map_toArray, List.map_cons, List.map_nil]); first | done | rfl | (simp only [List.length_drop, List.length_take]; rfl)) ?_; (with_reducible refine (cambiumref08_Counts_Get.calls g s0_0 s0_1 a1 t130 w0 _ ?side1 ?side2 A3.out).mono ?_); (case side1 => repeat (first | (with_reducible first | exact HI0.out | apply IsS60.alloc | apply IsS60.drewN | apply IsS60.drew) | exact HI0.out)); (case side2 => repeat (first | (with_reducible first | exact HB.out | apply below_alloc | apply pw_below_drewN | apply below_drew1 | refine below_set ?_ (IsS60.ge HI0.out)) | exact HB.out)); rintro e w8 ⟨rfl, hi, hb, hk⟩; refine ⟨_, rfl, ?_⟩; have n0_ := Aside0.mk (KeepBut.trans (by repeat (first | (with_reducible first | exact HK.out | apply KeepBut.set_ | apply keep_drewN | apply keep_drew | apply keep_alloc) | exact HK.out)) hk (.inl rfl)); have n1_ := Aside0.mk (hb); have n2_ := Aside0.mk (hi); clear HK; clear HB; clear HI0; have HK := n0_; have HB := n1_; have HI0 := n2_; clear n0_ n1_ n2_; (try clear hb); (try clear hb2); (try clear hk); (try clear hi); obtain ⟨ASz9_0, cSz9_0, ASz9_1, cSz9_1, HGz9, hgz9, HSz9_0, HSz9_1⟩ := HI0.out; have hcz9_0 := cellS60_0 HGz9; have hcz9_1 := cellS60_1 HGz9; clear HGz9 hgz9; have p131 : 0 ≤ (a1 : Int) := of_decide_eq_true (by first | (with_reducible assumption) | assumption); have q131 : a1 < (s0_1.length : Int) := of_decide_eq_true (by first | (with_reducible assumption) | assumption); obtain ⟨ad131, e131, hx131_0⟩ := Kd.at_int HSz9_1 a1 p131 q131; cases e131; replace hx131_0 := pw_cell_below HB.out hx131_0; replace p131 := eq_true p131; replace q131 := eq_true q131))
        go_ret
        exact ⟨by first | rfl | (simp [errW_none, errW_some] <;> rfl) | (simp [*, errW_none, errW_some] <;> rfl), by repeat (first | (with_reducible first | exact HI0.out | apply IsS60.alloc | apply IsS60.drewN | apply IsS60.drew) | exact HI0.out), by repeat (first | (with_reducible first | exact HB.out | apply below_alloc | apply pw_below_drewN | apply below_drew1 | refine below_set ?_ (IsS60.ge HI0.out)) | exact HB.out), by repeat (first | (with_reducible first | exact HK.out | apply KeepBut.set_ | apply keep_drewN | apply keep_drew | apply keep_alloc) | exact HK.out)⟩
      · rw [if_neg c7] at H
        exact absurd H (by simp)
    · rw [if_neg c6] at H
      exact absurd H (by simp)

-- NOT PRINTED: function 27 (cambiumlaw08_alike)

-- NOT PRINTED: function 22 (cambiumref08_Counts_Alloc)

-- NOT PRINTED: function 23 (cambiumref08_Counts_Ref)

-- NOT PRINTED: function 24 (cambiumref08_Counts_Unref)

-- NOT PRINTED: function 25 (cambiumref08_Counts_Commit)

-- NOT PRINTED: function 28 (cambiumlaw08_playRef)

/-! ### GIVEN slices_Grow_byte_byte: function 46 -/
/-- slices.Grow of nil: an empty row with room. -/
theorem slices_Grow.nil (n : Int) (h0 : 0 ≤ n) (hn : n ≤ 140737488355328) (w : World) :
    Calls Try.prog 46 #[.slice none 0 0, .int .i64 n] w fun e w' => ∃ v, e = .returned v ∧ Kd.R (Kd.int .u8) 5 w' w.heap.size (fun _ => True) v [] ∧ Below w.heap.size w w' := by
  by_cases hz : n = 0
  · subst hz
    go_enter Try.func46, Try.ntmps46
    go_wp2
    go_ret
    exact ⟨_, rfl, Kd.R_nil _ _ _ _ _, Below.refl _ _⟩
  · have hpos : 0 < n := by omega
    clear hz
    go_enter Try.func46, Try.ntmps46
    go_wp2_with (first | (refine Kd.R_append_zeros (Kd.int .u8) (w0 := w) w.heap.size rfl (.tmp 20) (.tmp 21) 52 3 5 (.int .u8 0) 1 rfl Try.underlying52 Try.underlying3 info5 rfl (by decide) (by omega) (.slice none 0 0) [] 0 n (fun _ => True) rfl rfl rfl (fun _ _ => trivial) (Kd.R_nil _ _ _ _ _) h0 (Below.refl _ _) (Nat.le_refl _) (by simp; omega) ?_; intro v1 w1 ho hb _ _; have HO := Aside0.mk ho; have HB := Aside0.mk hb; clear ho hb; obtain ⟨A1, c1, he1⟩ := Kd.R_slice HO.out; subst he1; obtain ⟨i0, hi0, _, hs0, _⟩ := info_parts info5; have hcut := cut_to (P := Try.prog) 52 5 .i64 Try.underlying52 hi0 A1 _ c1 0 (by omega) (by omega) (Kd.R_reads' HO.out).2.1))
    go_ret
    exact ⟨_, rfl, Kd.R_take (m := 0) HO.out (Nat.zero_le _), HB.out⟩
/-! ### end of GIVEN -/
/-! ### GIVEN slices_Concat_byte_byte: function 45 -/
/-- A row of rows that is read: its element k. -/
theorem rows_at {α : Type} {d : Kd α} {e : Nat} {w : World} {A : Option Addr} {n : Nat} {ls : List (List α)} (h : Kd.C (Kd.slice e d) w A n ls) (k : Nat) (hk : k < ls.length) :
    ∃ ad A' c', A = some ad ∧ w.cell? (ad.add k) = some (.slice A' ls[k].length c') ∧ ls[k].length ≤ c' ∧ Kd.C d w A' ls[k].length ls[k] := by
  obtain ⟨hl, _, hc⟩ := h
  obtain ⟨ad, he, hg⟩ := hc (by omega)
  obtain ⟨cs, h1, ⟨A', c', rfl, h2, h3⟩, h4⟩ := hg k ls[k] (List.getElem?_eq_getElem hk)
  refine ⟨ad, A', c', he, ?_, h2, h3⟩
  have := h4 0 _ rfl
  simpa [Kd.slice] using this
def lensum (ls : List (List Int)) : Nat := (ls.map List.length).sum
theorem lensum_append (a b : List (List Int)) : lensum (a ++ b) = lensum a + lensum b := by simp [lensum]
theorem lensum_take (ls : List (List Int)) (k : Nat) (h : k < ls.length) : lensum (ls.take (k + 1)) = lensum (ls.take k) + ls[k].length := by
  rw [List.take_succ_eq_append_getElem h, lensum_append]
  rfl
theorem lensum_le (ls : List (List Int)) (k : Nat) : lensum (ls.take k) ≤ lensum ls := by
  have h : lensum ls = lensum (ls.take k) + lensum (ls.drop k) := by rw [← lensum_append, List.take_append_drop]
  omega
theorem flatten_take (ls : List (List Int)) (k : Nat) (h : k < ls.length) : (ls.take (k + 1)).flatten = (ls.take k).flatten ++ ls[k] := by
  rw [List.take_succ_eq_append_getElem h, List.flatten_append, List.flatten_singleton]
theorem flatten_len (ls : List (List Int)) : ls.flatten.length = lensum ls := by simp [lensum, List.length_flatten]
set_option maxHeartbeats 1000000 in
theorem slices_Concat.calls (A : Option Addr) (c : Nat) (ls : List (List Int)) (w : World) (hr : Kd.C (Kd.slice 5 (Kd.int .u8)) w A ls.length ls) (hl : lensum ls ≤ 140737488355328) :
    Calls Try.prog 45 #[.slice A ls.length c] w fun e w' => ∃ v, e = .returned v ∧ Kd.R (Kd.int .u8) 5 w' w.heap.size (fun _ => True) v ls.flatten ∧ Below w.heap.size w w' := by
  have HR := Aside0.mk hr
  have HM := Aside0.mk hr.2.1
  have HL := Aside0.mk hl
  clear hr hl
  go_enter Try.func45, Try.ntmps45
  go_wp2
  go_loop [3, 11] (fun s i => ∃ k : Nat, k ≤ ls.length ∧ i = .int .i64 k ∧ s = .int .i64 (lensum (ls.take k) : Nat)) (fun _ i => ls.length - (intOf i).toNat)
  case atStart => exact ⟨0, by omega, rfl, rfl⟩
  case round =>
    obtain ⟨k, hk, rfl, rfl⟩ := hrel
    have hm := HM.out
    have hs1 : lensum (ls.take k) ≤ 140737488355328 := Nat.le_trans (lensum_le ls k) HL.out
    by_cases hlt : k < ls.length
    · have hs2 : lensum (ls.take k) + ls[k].length ≤ 140737488355328 := by rw [← lensum_take ls k hlt]; exact Nat.le_trans (lensum_le ls (k + 1)) HL.out
      have HS := Aside0.mk (lensum_take ls k hlt)
      obtain ⟨ad, A1, c1, rfl, hcell, hc1, hC⟩ := rows_at HR.out k hlt
      have HC := Aside0.mk hC
      clear hC
      go_wp2
      go_round
      case rel => exact ⟨k + 1, by omega, by go_num, by rw [HS.out]; go_num⟩
      case measure => simp [intOf]; omega
    · obtain rfl : k = ls.length := by omega
      rw [List.take_length] at *
      go_wp2_with (go_at_call 46; refine (slices_Grow.nil _ (by omega) (by omega) _).mono ?_; rintro e w1 ⟨v1, rfl, ho, hb⟩; have HO := Aside0.mk ho; have HB := Aside0.mk hb; clear ho hb)
      go_loopw [6, 27] (fun v i wr => ∃ k : Nat, k ≤ ls.length ∧ i = .int .i64 k ∧ Aside0 (Kd.R (Kd.int .u8) 5 wr w.heap.size (fun _ => True) v (ls.take k).flatten) ∧ Aside0 (Below w.heap.size w wr)) (fun _ i _ => ls.length - (intOf i).toNat)
      case atStart => exact ⟨0, by omega, rfl, HO, HB⟩
      case round =>
        clear HO HB
        obtain ⟨k, hk, rfl, HO, HB⟩ := hrel
        by_cases hlt : k < ls.length
        · obtain ⟨ad, A1, c1, rfl, hcell, hc1, hC⟩ := rows_at (Kd.C_below HR.out HB.out) k hlt
          have HC := Aside0.mk hC
          have HF := Aside0.mk (flatten_take ls k hlt)
          have HS := Aside0.mk (show (ls.take k).flatten.length + ls[k].length ≤ 140737488355328 from by
            rw [flatten_len, ← lensum_take ls k hlt]; exact Nat.le_trans (lensum_le ls (k + 1)) HL.out)
          clear hC
          go_wp2_with (first | ((with_reducible refine gate_builtin (b := .append) (xs := #[.tmp 31, .tmp 32]) rfl ?_); at_builtin; refine Kd.R_append_rows (Kd.int .u8) (w0 := w) w.heap.size rfl (.tmp 31) (.tmp 32) 52 5 (.int .u8 0) 1 rfl Try.underlying52 info5 rfl (by decide) (by omega) _ _ ls[k] _ _ _ (fun _ => True) (fun _ => False) rfl rfl HO.out HC.out (fun _ _ h => h) (fun _ h => h.elim) (fun _ _ => trivial) HB.out HB.out.size (by have := HS.out; omega) ?_; intro v1 w2 ho hb _ _; have HO2 := Aside0.mk ho; have HB2 := Aside0.mk hb; clear ho hb))
          go_roundw
          case rel => exact ⟨k + 1, by omega, by go_num, by rw [HF.out]; exact HO2, HB2⟩
          case measure => simp [intOf]; omega
        · obtain rfl : k = ls.length := by omega
          rw [List.take_length] at HO
          go_wp2
          go_ret
          exact ⟨_, rfl, HO.out, HB.out⟩
/-! ### end of GIVEN -/
end Go.Proofs.Ytinhiigkfabcfaa.P
