/- The pipes as parts of memory, and the document's pipe. -/
import Derived.Test.YtpcgjcipdnacoaaPipe1
import Derived.Deep.RegionLaw
namespace Go.Proofs.Ytpcgjcipdnacoaa.P
open Go.RowKit Go.Proofs.YtpcgjcipdnacoaaW.PrintWords Go.Proofs.YtpcgjcipdnacoaaW.PrintLast Go.Proofs.YtpcgjcipdnacoaaW.PrintMore Go.Proofs.Ytpcgjcipdnacoaa.Sep
set_option linter.unusedVariables false
attribute [local go_sem] max2_int min2_int max_two min_two max_three min_three max_four min_four
/-- A pipe in which q stands. -/
def pipe (g : Nat) (q : List Int) : HP where
  P w F := F g ∧ ∃ (R : List Int) (f n : Nat), IsPipe w g R f n ∧ que R f n = q
  move := fun h ⟨hg, R, f, n, hi, hq⟩ => ⟨hg, R, f, n, ⟨(h _ hg).trans hi.blk, hi.len, hi.hf, hi.hn⟩, hq⟩
theorem Only.step {w w' : World} {g : Nat} {F : Nat → Prop} (h : Only w w' g) (hg : F g) : Step F F w w' :=
  ⟨h.os, h.tape, h.output, h.keep.1, fun i hi hn => h.keep.2 i hi (fun e => hn (e ▸ hg)) (by simp), fun _ h => Or.inl h⟩
theorem pipe_len {w0 w : World} {ps : List HP} {g : Nat} {q : List Int} (h : St w0 w (pipe g q :: ps)) : q.length ≤ 64 := by
  obtain ⟨F, hp⟩ := h.tells
  obtain ⟨hg, R, f, n, hi, rfl⟩ := hp
  rw [que_length]
  exact hi.hn
theorem pipe_New.st {w0 w : World} {ps : List HP} (h : St w0 w ps) :
    Calls Try.prog 7 #[] w fun e w' => ∃ g, e = .returned (.pointer (some ⟨g, 0, none⟩)) ∧ St w0 w' (pipe g [] :: ps) := by
  refine (pipe_New.calls w).mono ?_
  rintro e w' ⟨rfl, rfl⟩
  refine ⟨_, rfl, h.new_ (below_alloc (Below.refl _ _) _) (fun k => k = w.heap.size) (fun k hk => by subst hk; simp) ⟨rfl, List.replicate 64 0, 0, 0, ⟨heap_alloc_new _ _, by simp, by omega, by omega⟩, rfl⟩⟩
theorem pipe_Len.st {w0 w : World} {ps : List HP} {g : Nat} {q : List Int} (h : St w0 w (pipe g q :: ps)) :
    Calls Try.prog 10 #[.pointer (some ⟨g, 0, none⟩)] w fun e w' => e = .returned (.int .i64 q.length) ∧ w' = w := by
  obtain ⟨F, hp⟩ := h.tells
  obtain ⟨hg, R, f, n, hi, rfl⟩ := hp
  rw [que_length]
  exact pipe_Len.calls g R f n w hi
theorem pipe_Room.st {w0 w : World} {ps : List HP} {g : Nat} {q : List Int} (h : St w0 w (pipe g q :: ps)) :
    Calls Try.prog 11 #[.pointer (some ⟨g, 0, none⟩)] w fun e w' => e = .returned (.int .i64 (64 - (q.length : Int))) ∧ w' = w := by
  obtain ⟨F, hp⟩ := h.tells
  obtain ⟨hg, R, f, n, hi, rfl⟩ := hp
  rw [que_length]
  exact pipe_Room.calls g R f n w hi
theorem pipe_Write.st {w0 w : World} {ps : List HP} {g : Nat} {q : List Int} (h : St w0 w (pipe g q :: ps)) (A1 : Option Addr) (c1 : Nat) (l1 : List Int) (hr1 : ∀ W', KeepBut w W' g none → Kd.C (Kd.int .u8) W' A1 l1.length l1) (hc1 : l1.length ≤ c1) :
    Calls Try.prog 8 #[.pointer (some ⟨g, 0, none⟩), .slice A1 l1.length c1] w fun e w' => e = .returned (.int .i64 ((min l1.length (64 - q.length) : Nat) : Int)) ∧ St w0 w' (pipe g (q ++ l1.take (min l1.length (64 - q.length))) :: ps) := by
  obtain ⟨F, hF, ⟨hg, R, f, n, hi, hq⟩, hs⟩ := h.out
  have hl : q.length = n := by rw [← hq, que_length]
  rw [hl]
  refine (pipe_Write.calls g R f n A1 c1 l1 w hi hr1 hc1).mono ?_
  rintro e w' ⟨R', rfl, hi', hq', ho⟩
  refine ⟨rfl, hs (qs := [pipe g (q ++ l1.take (min l1.length (64 - n)))]) (ho.step hg) (Sep.one (fun k hk => Nat.lt_of_lt_of_le (hF k hk).2 ho.keep.1) ⟨hg, R', f, _, hi', ?_⟩)⟩
  rw [hq', hq]
theorem pipe_Read.st {w0 w : World} {ps : List HP} {g : Nat} {q : List Int} (h : St w0 w (pipe g q :: ps)) (a1 : Int) :
    Calls Try.prog 9 #[.pointer (some ⟨g, 0, none⟩), .int .i64 a1] w fun e w' => ∃ v, e = .returned v ∧ St w0 w' (row (Kd.int .u8) 5 v (q.take (min a1.toNat q.length)) :: pipe g (q.drop (min a1.toNat q.length)) :: ps) ∧ KeepBut w w' g none := by
  obtain ⟨F, hF, ⟨hg, R, f, n, hi, hq⟩, hs⟩ := h.out
  have hl : q.length = n := by rw [← hq, que_length]
  rw [hl]
  refine (pipe_Read.calls g R f n a1 w hi).mono ?_
  rintro e w' ⟨v, f', rfl, hr, hi', hq', ho⟩
  rw [hq] at hr hq'
  refine ⟨v, rfl, hs (qs := [row (Kd.int .u8) 5 v (q.take (min a1.toNat n)), pipe g (q.drop (min a1.toNat n))]) (F' := fun k => F k ∨ (w.heap.size ≤ k ∧ k < w'.heap.size)) ⟨ho.os, ho.tape, ho.output, ho.keep.1, (ho.step hg).block, fun i hi => hi.imp id (fun h => h.1)⟩ ?_, ho.keep⟩
  refine ⟨fun k => w.heap.size ≤ k ∧ k < w'.heap.size, fun k hk => ⟨Or.inr hk, hk.2⟩, Kd.R_lower (Kd.R_mono (Kd.R_bound hr) (fun k hk => ⟨hk.1, hk.2.2.1⟩)) (Nat.zero_le _), F, fun k hk => ⟨⟨Or.inl hk, fun hn => ?_⟩, Nat.lt_of_lt_of_le (hF k hk).2 ho.keep.1⟩, ⟨hg, R, f', _, hi', hq'⟩, trivial⟩
  have := (hF k hk).2
  omega
theorem pipe_ge {w0 w : World} {ps : List HP} {g : Nat} {q : List Int} (h : St w0 w (pipe g q :: ps)) : w0.heap.size ≤ g ∧ g < w.heap.size := by
  obtain ⟨F, hF, hp, hs⟩ := h.out
  exact hF g hp.1
/-- A row that came in, beside a pipe. -/
theorem pipe_came {w0 w : World} {ps : List HP} {g : Nat} {q : List Int} (h : St w0 w (pipe g q :: ps)) {A : Option Addr} {n : Nat} {l : List Int} (hr : Kd.C (Kd.int .u8) w0 A n l) : ∀ W', KeepBut w W' g none → Kd.C (Kd.int .u8) W' A n l :=
  Kd.C_foot_came (Kd.heap_int _) hr h.below (pipe_ge h).1
theorem pipe_Write.came {w0 w : World} {ps : List HP} {g : Nat} {q : List Int} (h : St w0 w (pipe g q :: ps)) {A1 : Option Addr} {c1 n k : Nat} {l1 : List Int} (hr1 : Kd.C (Kd.int .u8) w0 A1 n l1) (hc1 : n ≤ c1) (hk : k = min n (64 - q.length)) :
    Calls Try.prog 8 #[.pointer (some ⟨g, 0, none⟩), .slice A1 n c1] w fun e w' => e = .returned (.int .i64 (k : Int)) ∧ St w0 w' (pipe g (q ++ l1.take k) :: ps) := by
  obtain rfl : l1.length = n := hr1.1
  subst hk
  exact pipe_Write.st h A1 c1 l1 (pipe_came h hr1) hc1
theorem pipe_Len.stn {w0 w : World} {ps : List HP} {g n : Nat} {q : List Int} (h : St w0 w (pipe g q :: ps)) (hn : q.length = n) :
    Calls Try.prog 10 #[.pointer (some ⟨g, 0, none⟩)] w fun e w' => e = .returned (.int .i64 n) ∧ w = w' := by
  subst hn
  exact (pipe_Len.st h).mono fun e w' hh => ⟨hh.1, hh.2.symm⟩
theorem pipe_Room.stn {w0 w : World} {ps : List HP} {g n : Nat} {q : List Int} (h : St w0 w (pipe g q :: ps)) (hn : q.length = n) :
    Calls Try.prog 11 #[.pointer (some ⟨g, 0, none⟩)] w fun e w' => e = .returned (.int .i64 (64 - (n : Int))) ∧ w = w' := by
  subst hn
  exact (pipe_Room.st h).mono fun e w' hh => ⟨hh.1, hh.2.symm⟩
/-- The document's pipe: a row of bytes. -/
def rpipe (y : Nat) (q : List Int) : HP := ex fun v => all [blk y #[v] 34, row (Kd.int .u8) 5 v q]
theorem rpipe_out {w0 w : World} {ps : List HP} {y : Nat} {q : List Int} (h : St w0 w (rpipe y q :: ps)) : ∃ (A : Option Addr) (c : Nat), St w0 w (blk y #[.slice A q.length c] 34 :: row (Kd.int .u8) 5 (.slice A q.length c) q :: ps) := by
  obtain ⟨v, h⟩ := h.out_ex
  have h := h.out_all
  obtain ⟨A, c, rfl⟩ := (St.swap h).row_slice
  exact ⟨A, c, h⟩
theorem rpipe_in {w0 w : World} {ps : List HP} {y : Nat} {q : List Int} {v : Value} (h : St w0 w (blk y #[v] 34 :: row (Kd.int .u8) 5 v q :: ps)) : St w0 w (rpipe y q :: ps) :=
  St.in_ex v (St.in_all [blk y #[v] 34, row (Kd.int .u8) 5 v q] h)
theorem o_clamp (a : Int) (n : Nat) : (a < 0 ∧ min a.toNat n = 0) ∨ (¬ a < 0 ∧ a ≤ n ∧ ((min a.toNat n : Nat) : Int) = a) ∨ (¬ a < 0 ∧ ¬ a ≤ n ∧ min a.toNat n = n) := by omega
set_option maxHeartbeats 2000000 in
theorem rpipe_Read.st {w0 w : World} {ps : List HP} {y : Nat} {q : List Int} (h : St w0 w (rpipe y q :: ps)) (hq : q.length ≤ 64) (a1 : Int) :
    Calls Try.prog 13 #[.pointer (some ⟨y, 0, none⟩), .int .i64 a1] w fun e w' => ∃ v, e = .returned v ∧ St w0 w' (row (Kd.int .u8) 5 v (q.take (min a1.toNat q.length)) :: rpipe y (q.drop (min a1.toNat q.length)) :: ps) := by
  obtain ⟨A, c, hs⟩ := rpipe_out h
  have HS := Aside0.mk hs
  clear h hs
  obtain ⟨n, hn⟩ : ∃ n, q.length = n := ⟨_, rfl⟩
  rw [hn] at HS hq ⊢
  have HNL := Aside0.mk hn
  have HQ := Aside0.mk hq
  have hk0 : w.cell? ⟨y, 0, none⟩ = some (.slice A n c) := blk_cell HS.out.blk_is 0
  have hn64 : (n : Int) ≤ 64 := by omega
  have hc := HS.out.swap.row_C
  have HC := Aside0.mk hc
  clear hn hq hc
  obtain ⟨k, hk⟩ : ∃ k, k = min a1.toNat n := ⟨_, rfl⟩
  rw [← hk]
  have HK := Aside0.mk hk
  have HKN := Aside0.mk (show k ≤ n from by omega)
  clear hk
  have hz := World.new_ne w _ hk0
  go_enter Try.func13, Try.ntmps13
  go_upto_region 1 with fail
  go_cut [5] (fun v wx => v = .int .i64 k ∧ w = wx)
  case first =>
    have hcase := o_clamp a1 n
    rw [← HK.out] at hcase
    rcases hcase with ⟨h1, rfl⟩ | ⟨h1, h2, h3⟩ | ⟨h1, h2, rfl⟩
    all_goals
      go_wp2
      all_goals go_meet
      all_goals first | exact ⟨rfl, rfl⟩ | exact ⟨congrArg (Value.int .i64) (by omega), rfl⟩
  case rest =>
    obtain ⟨rfl, rfl⟩ := hcut
    obtain ⟨i0, hi0, _, hs0, _⟩ := info_parts info5
    have hcut1 := cut_to (P := Try.prog) 22 5 .i64 Try.underlying22 hi0 A n c k (by omega) (by have := HKN.out; omega) HC.out.2.1
    rw [Int.toNat_natCast] at hcut1
    have HE : Aside0 (St w0 (w.alloc (.cells #[] 5)) (row (Kd.int .u8) 5 (.slice (some ⟨w.heap.size, 0, none⟩) 0 0) ([] : List Int) :: blk y #[.slice A n c] 34 :: row (Kd.int .u8) 5 (.slice A n c) q :: ps)) := Aside0.mk (St.row_empty (enc := Value.int .u8) (h1 := fun _ => rfl) HS.out 5)
    have hka : (w.alloc (.cells #[] 5)).cell? ⟨y, 0, none⟩ = some (.slice A n c) := blk_cell HE.out.swap.blk_is 0
    have HCk : Aside0 (∀ W, Below w.heap.size w W → Kd.C (Kd.int .u8) W A k (q.take k)) := ⟨fun W hb => by
      have h1 := Kd.C_below HC.out.2.2 hb
      have h2 := Own.C_take (xs := q) (HNL.out ▸ h1) k (by rw [HNL.out]; exact HKN.out)
      rw [List.length_take, HNL.out, Nat.min_eq_left HKN.out] at h2
      exact h2⟩
    go_wp2_with (first
      | ((with_reducible refine gate_builtin (b := .append) (xs := #[.tmp 15, .tmp 21]) rfl ?_); at_builtin; refine St.append_rows (d := Kd.int .u8) rfl (.tmp 15) (.tmp 21) 22 5 (.int .u8 0) 1 rfl Try.underlying22 info5 rfl (by decide) (by decide) _ [] (q.take k) _ _ _ rfl rfl HE.out (HCk.out _ (below_alloc (Below.refl _ _) _)) (fun _ _ h => h) (show (([] : List Int).length + k) * 1 ≤ 140737488355328 from by have := HKN.out; have := HQ.out; simp; omega) ?_; intro v6 w6 hs6; rw [List.nil_append] at hs6; obtain ⟨A6, c6, he6⟩ := hs6.row_slice; rw [List.length_take, HNL.out, Nat.min_eq_left HKN.out] at he6; subst he6; have HS6 := Aside0.mk hs6; have HE6 : Aside0 (St w0 (w6.alloc (.cells #[] 5)) (row (Kd.int .u8) 5 (.slice (some ⟨w6.heap.size, 0, none⟩) 0 0) ([] : List Int) :: row (Kd.int .u8) 5 (.slice A6 k c6) (q.take k) :: blk y #[.slice A n c] 34 :: row (Kd.int .u8) 5 (.slice A n c) q :: ps)) := Aside0.mk (St.row_empty (enc := Value.int .u8) (h1 := fun _ => rfl) hs6 5); clear hs6; have hk6 : w6.cell? ⟨y, 0, none⟩ = some (.slice A n c) := blk_cell HS6.out.swap.blk_is 0; have hka6 : (w6.alloc (.cells #[] 5)).cell? ⟨y, 0, none⟩ = some (.slice A n c) := blk_cell (HE6.out.front 2).blk_is 0; have hz6 := World.new_ne w6 _ hk6; obtain ⟨A1, ys, HY, hcut2, HY2, HY3⟩ := Own.cut_drop (P := Try.prog) (Kd.int .u8) 22 5 .i64 Try.underlying22 (by rw [hi0]; exact congrArg some hs0) (w := w6) (A := A) (c := c) (xs := q) (HNL.out.symm ▸ (HS6.out.front 2).row_C.2.2) (by rw [HNL.out]; exact HC.out.2.1) k (by rw [HNL.out]; exact HKN.out); rw [HNL.out] at hcut2; clear hcut1)
      | ((with_reducible refine gate_builtin (b := .append) (xs := #[.tmp 24, .tmp 30]) rfl ?_); at_builtin; refine St.append_rows (d := Kd.int .u8) rfl (.tmp 24) (.tmp 30) 22 5 (.int .u8 0) 1 rfl Try.underlying22 info5 rfl (by decide) (by decide) _ [] ys _ _ _ rfl rfl HE6.out (Kd.C_below HY2.out (below_alloc (Below.refl _ _) _)) (fun _ _ h => h) (show (([] : List Int).length + ys.length) * 1 ≤ 140737488355328 from by have := HQ.out; rw [HY.out, List.length_drop, HNL.out]; simp; omega) ?_; intro v7 w7 hs7; rw [List.nil_append] at hs7; obtain ⟨A7, c7, he7⟩ := hs7.row_slice; subst he7; have HS7 := Aside0.mk hs7; clear hs7; have hk7 : w7.cell? ⟨y, 0, none⟩ = some (.slice A n c) := blk_cell (HS7.out.front 2).blk_is 0; have hf7 := blk_frozen (HS7.out.front 2).blk_is 0; clear hk6 hka6 hcut2))
    go_ret
    refine ⟨_, rfl, ?_⟩
    have hy := HY.out
    subst hy
    exact St.swap (rpipe_in (St.drop (St.front 3 ((HS7.out.front 2).blk_set 0 (.slice A7 (q.drop k).length c7)))))
set_option maxHeartbeats 2000000 in
theorem rpipe_Write.came {w0 w : World} {ps : List HP} {y : Nat} {q : List Int} (h : St w0 w (rpipe y q :: ps)) (hq : q.length ≤ 64) {A1 : Option Addr} {c1 m k : Nat} {l1 : List Int} (hr1 : Kd.C (Kd.int .u8) w0 A1 m l1) (hc1 : m ≤ c1) (hk : k = min m (64 - q.length)) :
    Calls Try.prog 14 #[.pointer (some ⟨y, 0, none⟩), .slice A1 m c1] w fun e w' => e = .returned (.int .i64 (k : Int)) ∧ St w0 w' (rpipe y (q ++ l1.take k) :: ps) := by
  obtain ⟨A, c, hs⟩ := rpipe_out h
  have HS := Aside0.mk hs
  clear h hs
  have HM := Aside0.mk hr1.1
  have HR1 := Aside0.mk hr1
  have HC1 := Aside0.mk hc1
  clear hr1 hc1
  obtain ⟨n, hn⟩ : ∃ n, q.length = n := ⟨_, rfl⟩
  rw [hn] at HS hq hk
  have HNL := Aside0.mk hn
  have HQ := Aside0.mk hq
  have hk0 : w.cell? ⟨y, 0, none⟩ = some (.slice A n c) := blk_cell HS.out.blk_is 0
  have hn64 : (n : Int) ≤ 64 := by omega
  have HC := Aside0.mk (HS.out.swap.row_C)
  clear hn hq
  have HK := Aside0.mk hk
  have HKN := Aside0.mk (show k ≤ m ∧ n + k ≤ 64 from by have := HQ.out; omega)
  clear hk
  go_enter Try.func14, Try.ntmps14
  go_upto_region 1 with fail
  go_cut [5] (fun v wx => v = .int .i64 k ∧ w = wx)
  case first =>
    have hcase : (m + n ≤ 64 ∧ k = m) ∨ (¬ m + n ≤ 64 ∧ k + n ≤ 64 ∧ 64 ≤ k + n) := by
      have h1 := HK.out
      have h2 := HQ.out
      omega
    rcases hcase with ⟨h1, rfl⟩ | ⟨h1, h2, h3⟩
    all_goals
      go_wp2
      all_goals go_meet
      all_goals first | exact ⟨rfl, rfl⟩ | exact ⟨congrArg (Value.int .i64) (by omega), rfl⟩
  case rest =>
    obtain ⟨rfl, rfl⟩ := hcut
    obtain ⟨i0, hi0, _, hs0, _⟩ := info_parts info5
    have hcut1 := cut_to (P := Try.prog) 22 5 .i64 Try.underlying22 hi0 A1 m c1 k (by omega) (by have := HKN.out; omega) HC1.out
    rw [Int.toNat_natCast] at hcut1
    have HE : Aside0 (St w0 (w.alloc (.cells #[] 5)).drew (row (Kd.int .u8) 5 (.slice (some ⟨w.heap.size, 0, none⟩) 0 0) ([] : List Int) :: blk y #[.slice A n c] 34 :: row (Kd.int .u8) 5 (.slice A n c) q :: ps)) := Aside0.mk (St.row_empty (enc := Value.int .u8) (h1 := fun _ => rfl) HS.out 5).drew
    have hka : (w.alloc (.cells #[] 5)).drew.cell? ⟨y, 0, none⟩ = some (.slice A n c) := blk_cell HE.out.swap.blk_is 0
    have HCq : Aside0 (Kd.C (Kd.int .u8) (w.alloc (.cells #[] 5)).drew A n q) := ⟨Kd.C_below HC.out.2.2 (below_drew (below_alloc (Below.refl _ _) _))⟩
    have HCk : Aside0 (Kd.C (Kd.int .u8) w0 A1 k (l1.take k)) := ⟨by
      have h2 := Own.C_take (xs := l1) (HM.out ▸ HR1.out) k (by rw [HM.out]; exact HKN.out.1)
      rw [List.length_take, HM.out, Nat.min_eq_left HKN.out.1] at h2
      exact h2⟩
    go_wp2_with fail
    go_region_law (first
      | (refine St.append_rows_step (d := Kd.int .u8) (by rfl) (.tmp 16) (.tmp 20) 22 5 (.int .u8 0) 1 rfl Try.underlying22 info5 rfl (by decide) (by decide) _ [] q _ _ _ rfl rfl HE.out HCq.out (fun _ _ h => h) (show (([] : List Int).length + n) * 1 ≤ 140737488355328 from by have := HQ.out; simp; omega) ?_; intro v6 w6 hs6; rw [List.nil_append] at hs6; obtain ⟨A6, c6, he6⟩ := hs6.row_slice; rw [HNL.out] at he6; subst he6; have HS6 := Aside0.mk hs6; have hk6 : w6.cell? ⟨y, 0, none⟩ = some (.slice A n c) := blk_cell HS6.out.swap.blk_is 0; clear hs6)
      | (refine St.append_rows_step (d := Kd.int .u8) (by rfl) (.tmp 21) (.tmp 24) 22 5 (.int .u8 0) 1 rfl Try.underlying22 info5 rfl (by decide) (by decide) _ q (l1.take k) _ _ _ rfl rfl HS6.out (Kd.C_below HCk.out HS6.out.below) (fun _ _ h => h) (show (q.length + k) * 1 ≤ 140737488355328 from by have := HKN.out; rw [HNL.out]; omega) ?_; intro v7 w7 hs7; obtain ⟨A7, c7, he7⟩ := hs7.row_slice; rw [show (q ++ l1.take k).length = n + k from by rw [List.length_append, HNL.out, List.length_take, HM.out, Nat.min_eq_left HKN.out.1]] at he7; subst he7; have HS7 := Aside0.mk hs7; have hk6 : w7.cell? ⟨y, 0, none⟩ = some (.slice A n c) := blk_cell HS7.out.swap.blk_is 0; have hf7 := blk_frozen HS7.out.swap.blk_is 0; clear hs7))
    all_goals
      go_wp2
      go_ret
      exact ⟨rfl, rpipe_in (St.drop (St.front 2 ((HS7.out.front 1).blk_set 0 (.slice A7 (n + k) c7))))⟩
theorem pcells_size (R : List Int) (f n : Nat) (h : R.length = 64) : (pcells R f n).size = 66 := by
  unfold pcells
  simp [nums_length, h]
theorem pcells_one (R : List Int) (f n : Nat) : ∀ v ∈ (pcells R f n).toList, v.oneCell' = true := by
  intro v hv
  unfold pcells at hv
  simp only [List.mem_append, nums, List.mem_map, List.mem_cons, List.not_mem_nil, or_false] at hv
  rcases hv with ⟨x, _, rfl⟩ | rfl | rfl <;> rfl
set_option maxHeartbeats 2000000 in
theorem pipe_Clone.st {w0 w : World} {ps : List HP} {g : Nat} {q : List Int} (h : St w0 w (pipe g q :: ps)) :
    Calls Try.prog 12 #[.pointer (some ⟨g, 0, none⟩)] w fun e w' => ∃ g', e = .returned (.pointer (some ⟨g', 0, none⟩)) ∧ St w0 w' (pipe g' q :: pipe g q :: ps) := by
  obtain ⟨F, hF, ⟨hg, R, f, n, hi, hq⟩, hs⟩ := h.out
  have HI := Aside0.mk hi
  have HST := Aside0.mk h
  have HQ := Aside0.mk hq
  have HZ0 := Aside0.mk (pcells_size R f n hi.len)
  have HB := Aside0.mk hi.blk
  have H1 := Aside0.mk (pcells_one R f n)
  clear hF hs hg hq h hi
  have HI2 : Aside0 (∀ w' : World, w'.heap[w.heap.size]? = some (.cells (pcells R f n) 41 (0, 0)) → IsPipe w' w.heap.size R f n) := ⟨fun w' h => ⟨h, HI.out.len, HI.out.hf, HI.out.hn⟩⟩
  have hz := zeroPipe
  have hs : ((pcells (List.replicate 64 0) 0 0).size == 0) = false := rfl
  have HZ := Aside0.mk (pcells_size (List.replicate 64 0) 0 0 (by simp))
  have HII := Aside0.mk (show (Try.prog.info? 41).map (·.size) = some 66 from by kernel_rfl)
  generalize pcells (List.replicate 64 0) 0 0 = Z at *
  generalize hC : pcells R f n = C at *
  clear hC
  go_enter Try.func12, Try.ntmps12
  go_wp2_with (first
    | ((with_reducible refine gate_dst (N := 6) rfl ?_); refine wpList_load_row rfl 41 _ rfl g rfl 41 C (0, 0) _ HB.out Try.underlying41 rfl (by rw [HZ0.out]; exact HII.out) ?_)
    | (refine Own.wpList_store_row rfl 41 _ _ rfl w.heap.size rfl C rfl 41 Z (heap_alloc_new _ _) (by rw [HZ0.out]; exact HII.out) (by rw [HZ0.out, HZ.out]) H1.out ?_; rw [Own.setRow_alloc_at _ _ _ _ _ rfl]))
  go_ret
  exact ⟨w.heap.size, rfl, HST.out.new_ (below_alloc (Below.refl _ _) _) (fun k => k = w.heap.size) (fun k hk => by subst hk; simp) ⟨rfl, R, f, n, HI2.out _ (heap_alloc_new _ _), HQ.out⟩⟩
end Go.Proofs.Ytpcgjcipdnacoaa.P
