/- Functions and contracts, written by a program (mkprint.py, a wrapper of ours around the print); texts between GIVEN marks are ours. -/
import Derived.Test.YtcjnknpbikfimaaPx0
import Derived.Test.YtcjnknpbikfimaaPx8
import Derived.Test.YtcjnknpbikfimaaPx9
namespace Go.Proofs.Ytcjnknpbikfimaa.P
open Go.RowKit Go.Proofs.YtcjnknpbikfimaaW.PrintWords Go.Proofs.YtcjnknpbikfimaaW.PrintLast Go.Proofs.YtcjnknpbikfimaaW.PrintMore
attribute [local go_sem] max2_int min2_int max_two min_two max_three min_three max_four min_four   -- for this text's walks alone
set_option linter.unusedVariables false
set_option linter.unusedSimpArgs false

/-! ### GIVEN seal_Seal: function 34 -/
theorem put_some (l : List Int) (x : Int) (n : Nat) (h1 : 1 ≤ n) (h8 : n ≤ 8) (hl : l.length ≤ 1000) : num_Put.f l x n = some (l ++ eights x n) := by
 unfold num_Put.f num_join.f
 have hb : ¬ ((n : Int) < 1 ∨ 8 < (n : Int)) := by omega
 simp only [if_neg hb, Int.toNat_natCast]
 rw [if_pos (by rw [eights_length]; omega)]
/-- The block behind its sum: header, noughts, body, noughts. -/
def sealHead (a0_0 a0_1 a0_2 a0_3 a0_4 : Int) : List Int := eights a0_0 1 ++ eights a0_3 1 ++ eights a0_1 2 ++ eights a0_2 2 ++ eights a0_4 5
def sealRow (a0_0 a0_1 a0_2 a0_3 a0_4 : Int) (l1 : List Int) : List Int := sealHead a0_0 a0_1 a0_2 a0_3 a0_4 ++ (List.replicate 5 0 ++ (l1 ++ List.replicate (236 - l1.length) 0))
def seal_Seal.f (a0_0 a0_1 a0_2 a0_3 a0_4 : Int) (l1 : List Int) : Option (List Int × Int) :=
 if sealMay a0_0 a0_1 a0_2 a0_3 a0_4 = false then some ([], 1) else if (l1.length : Int) > 236 then some ([], 7) else
  (sum_Sum.f (sealRow a0_0 a0_1 a0_2 a0_3 a0_4 l1)).bind fun s => some (eights (wrap64 s) 4 ++ sealRow a0_0 a0_1 a0_2 a0_3 a0_4 l1, 0)
def zeroL : List Value := List.replicate 256 (.int .u8 0)
theorem C_src {w : World} {A : Option Addr} {xs : List Int} (h : Kd.C (Kd.int .u8) w A xs.length xs) (hp : 0 < (nums .u8 xs).length) : ∃ ad, A = some ad ∧ ∀ j v, (nums .u8 xs)[j]? = some v → w.cell? (ad.add j) = some v := by
 obtain ⟨_, _, hc⟩ := h
 obtain ⟨ad, rfl, hg⟩ := hc (by simpa [nums] using hp)
 refine ⟨ad, rfl, fun j v hj => ?_⟩
 simp only [nums, List.getElem?_map, Option.map_eq_some_iff] at hj
 obtain ⟨p, hp2, rfl⟩ := hj
 obtain ⟨cs, h1, h2, h3⟩ := hg j p hp2
 have h4 : cs = [.int .u8 p] := h2
 subst h4
 have := h3 0 _ rfl
 simpa [Kd.int, Kd.scalar] using this
theorem blk_C {w : World} {g t : Nat} {cur : List Value} (hg : w.heap[g]? = some (.cells cur.toArray t (0, 0))) (off : Nat) (xs : List Int) (h : ∀ j p, xs[j]? = some p → cur[off + j]? = some (.int .u8 p)) (hl : xs.length ≤ 9223372036854775807) : Kd.C (Kd.int .u8) w (some ⟨g, off, none⟩) xs.length xs := by
 refine ⟨rfl, hl, fun _ => ⟨_, rfl, fun j p hj => ⟨[.int .u8 p], rfl, rfl, fun i u hu => ?_⟩⟩⟩
 have hi : i = 0 := by
  rcases i with _ | i
  ·rfl
  ·simp at hu
 subst hi
 simp at hu
 subst hu
 have ha : (⟨g, off, none⟩ : Addr).add (j * (Kd.int IntKind.u8).sz + 0) = ⟨g, off + j, none⟩ := by
  show (⟨g, off, none⟩ : Addr).add (j * 1 + 0) = _
  unfold Addr.add
  split
  ·have : j = 0 := by omega
   subst this; simp
  ·simp
 rw [ha, cell_of_row _ _ _ _ _ _ hg]
 simpa using h j p hj
theorem nums_one (xs : List Int) : ∀ v ∈ nums .u8 xs, v.oneCell' = true := by
 intro v hv
 simp only [nums, List.mem_map] at hv
 obtain ⟨x, _, rfl⟩ := hv
 rfl
theorem nums_zero (n : Nat) : nums .u8 (List.replicate n 0) = List.replicate n (.int .u8 0) := by unfold nums; rw [List.map_replicate]
theorem zeroL_is : zeroL = List.replicate 256 (.int .u8 0) := rfl
theorem seal_two (E l : List Int) (hE : E.length = 11) (hl : l.length ≤ 236) :
  splice (splice zeroL 4 (nums .u8 E)) 20 (nums .u8 l) = nums .u8 (List.replicate 4 0 ++ (E ++ (List.replicate 5 0 ++ (l ++ List.replicate (236 - l.length) 0)))) := by
 simp only [nums_append, nums_zero, zeroL_is, splice, nums_length, hE]
 generalize hv : Value.int .u8 0 = v
 have e1 : (List.replicate 256 v).take 4 = List.replicate 4 v := by rw [List.take_replicate, Nat.min_eq_left (by omega)]
 have e2 : (List.replicate 256 v).drop (4 + 11) = List.replicate 5 v ++ List.replicate 236 v := by rw [List.drop_replicate, List.replicate_append_replicate]
 rw [e1, e2]
 have e3 : (List.replicate 4 v ++ (nums .u8 E ++ (List.replicate 5 v ++ List.replicate 236 v))) = (List.replicate 4 v ++ (nums .u8 E ++ List.replicate 5 v)) ++ List.replicate 236 v := by simp only [List.append_assoc]
 have h20 : (List.replicate 4 v ++ (nums .u8 E ++ List.replicate 5 v)).length = 20 := by simp only [List.length_append, List.length_replicate, nums_length, hE]
 rw [e3, List.take_append_of_le_length (by omega), List.take_of_length_le (by omega), List.drop_append, List.drop_of_length_le (by omega), h20, List.nil_append, List.drop_replicate, show 236 - (20 + l.length - 20) = 236 - l.length from by omega]
 simp only [List.append_assoc]
theorem nums_at (Z R : List Int) (j : Nat) (p : Int) (h : R[j]? = some p) : (nums .u8 (Z ++ R))[Z.length + j]? = some (.int .u8 p) := by
 rw [nums_append, List.getElem?_append_right (by rw [nums_length]; omega), nums_length, Nat.add_sub_cancel_left]
 simp [nums, h]
theorem sealRow_len (a0_0 a0_1 a0_2 a0_3 a0_4 : Int) (l1 : List Int) (h : l1.length ≤ 236) : (sealRow a0_0 a0_1 a0_2 a0_3 a0_4 l1).length = 252 := by
 unfold sealRow sealHead
 simp only [List.length_append, List.length_replicate, eights_length]
 omega
theorem copied {w : World} {g t : Nat} {a b : List Value} (h : w.heap[g]? = some (.cells a.toArray t (0, 0))) (e : a = b) : w.heap[g]? = some (.cells b.toArray t (0, 0)) := by rw [← e]; exact h
theorem seal_three (E R : List Int) (hE : E.length = 4) : splice (nums .u8 (List.replicate 4 0 ++ R)) 0 (nums .u8 E) = nums .u8 (E ++ R) := by
 simp only [nums_append, splice, nums_length, hE, nums_zero]
 generalize hv : Value.int .u8 0 = v
 rw [List.take_zero, List.nil_append, Nat.zero_add, List.drop_append, List.drop_of_length_le (by rw [List.length_replicate]; omega), List.length_replicate, List.nil_append, Nat.sub_self, List.drop_zero]
set_option maxHeartbeats 2000000 in
theorem seal_Seal.calls (a0_0 : Int) (a0_1 : Int) (a0_2 : Int) (a0_3 : Int) (a0_4 : Int) (A1 : Option Addr) (c1 : Nat) (l1 : List Int) (r1 : List Int) (r2 : Int) (w : World) (hr1 : Kd.C (Kd.int .u8) w A1 l1.length l1) (hc1 : l1.length ≤ c1) (h : seal_Seal.f a0_0 a0_1 a0_2 a0_3 a0_4 l1 = some (r1, r2)) :
  Calls Try.prog 34 #[.agg #[.int .i64 a0_0, .int .i64 a0_1, .int .i64 a0_2, .int .i64 a0_3, .int .i64 a0_4], .slice A1 l1.length c1] w fun e w' => ∃ v0_ : Value, e = .returned (.tuple #[v0_, .int .i64 r2]) ∧ Kd.R (Kd.int .u8) 5 w' w.heap.size (fun _ => True) v0_ r1 ∧ Below w.heap.size w w' := by
 have HR1 := Aside0.mk hr1
 have HC1 := Aside0.mk hc1
 have HM1 := Aside0.mk hr1.2.1
 clear hr1 hc1
 have HB0 := Aside0.mk ((Below.refl w.heap.size w).alloc (Nat.le_refl _) (.cells #[.int .i64 a0_0, .int .i64 a0_1, .int .i64 a0_2, .int .i64 a0_3, .int .i64 a0_4] 62))
 unfold seal_Seal.f at h
 by_cases hm : sealMay a0_0 a0_1 a0_2 a0_3 a0_4 = false
 ·rw [if_pos hm] at h
  obtain ⟨rfl, rfl⟩ : [] = r1 ∧ 1 = r2 := by simpa using h
  have HM := Aside0.mk (show seal_may.f a0_0 a0_1 a0_2 a0_3 a0_4 = some false from congrArg some hm)
  clear h hm
  go_enter Try.func34, Try.ntmps34
  go_wp2_with (go_at_call 54; refine (seal_may.calls _ _ _ _ _ false _ HM.out).mono ?_; rintro e w1 ⟨rfl, hb⟩; have HB1 := Aside0.mk (below_step HB0.out hb); clear hb)
  go_ret2
  exact ⟨_, rfl, Kd.R_nil _ _ _ _ _, HB1.out⟩
 rw [if_neg hm] at h
 have HM := Aside0.mk (show seal_may.f a0_0 a0_1 a0_2 a0_3 a0_4 = some true from congrArg some (Bool.not_eq_false _ ▸ hm))
 clear hm
 by_cases hl : (l1.length : Int) > 236
 ·rw [if_pos hl] at h
  obtain ⟨rfl, rfl⟩ : [] = r1 ∧ 7 = r2 := by simpa using h
  have hd : decide ((236 : Int) < (l1.length : Int)) = true := decide_eq_true (by omega)
  have hm1 := HM1.out
  clear h hl
  go_enter Try.func34, Try.ntmps34
  go_wp2_with (go_at_call 54; refine (seal_may.calls _ _ _ _ _ true _ HM.out).mono ?_; rintro e w1 ⟨rfl, hb⟩; have HB1 := Aside0.mk (below_step HB0.out hb); clear hb)
  go_ret2
  exact ⟨_, rfl, Kd.R_nil _ _ _ _ _, HB1.out⟩
 rw [if_neg hl] at h
 have hle : l1.length ≤ 236 := by omega
 have HL1 := Aside0.mk hle
 have RL := Aside0.mk (sealRow_len a0_0 a0_1 a0_2 a0_3 a0_4 l1 hle)
 have HT0 := Aside0.mk (fun E (he : E = sealHead a0_0 a0_1 a0_2 a0_3 a0_4) (hz : E.length = 11) => show splice (splice zeroL 4 (nums .u8 E)) 20 (nums .u8 l1) = nums .u8 (List.replicate 4 0 ++ sealRow a0_0 a0_1 a0_2 a0_3 a0_4 l1) from by rw [seal_two E l1 hz hle, he]; rfl)
 clear hle
 generalize sealRow a0_0 a0_1 a0_2 a0_3 a0_4 l1 = Rw at *
 obtain ⟨s, hs, h2⟩ := Option.bind_eq_some_iff.1 h
 obtain ⟨rfl, rfl⟩ : _ = r1 ∧ 0 = r2 := by simpa using h2
 have HS := Aside0.mk hs
 clear h2
 have P6 := Aside0.mk (put_some [] (wrap64 s) 4 (by omega) (by omega) (by simp))
 have Z6 := Aside0.mk (eights_length (wrap64 s) 4)
 rw [List.nil_append] at P6
 generalize eights (wrap64 s) 4 = E6 at *
 have hd : decide ((236 : Int) < (l1.length : Int)) = false := decide_eq_false (by omega)
 have hm1 := HM1.out
 have hmk : ∀ W : World, (Instr.makeSlice 29 (.int .i64 256) (.int .i64 256)).run Try.prog W = .ok (.slice (some ⟨W.heap.size, 0, none⟩) 256 256) (W.alloc (.cells zeroL.toArray 5)) := fun _ => by kernel_rfl
 clear h hl hs
 go_enter Try.func34, Try.ntmps34
 go_wp2_with (go_at_call 54; refine (seal_may.calls _ _ _ _ _ true _ HM.out).mono ?_; rintro e w1 ⟨rfl, hb⟩; have HB1 := Aside0.mk (below_step HB0.out hb); have HE := Aside0.mk hb; clear hb)
 obtain ⟨E1, hE1⟩ : ∃ E, E = eights a0_0 1 := ⟨_, rfl⟩
 obtain ⟨E2, hE2⟩ : ∃ E, E = E1 ++ eights a0_3 1 := ⟨_, rfl⟩
 obtain ⟨E3, hE3⟩ : ∃ E, E = E2 ++ eights a0_1 2 := ⟨_, rfl⟩
 obtain ⟨E4, hE4⟩ : ∃ E, E = E3 ++ eights a0_2 2 := ⟨_, rfl⟩
 obtain ⟨E5, hE5⟩ : ∃ E, E = E4 ++ eights a0_4 5 := ⟨_, rfl⟩
 have z1 : E1.length = 1 := by rw [hE1, eights_length]
 have z2 : E2.length = 2 := by rw [hE2, List.length_append, eights_length]; omega
 have z3 : E3.length = 4 := by rw [hE3, List.length_append, eights_length]; omega
 have z4 : E4.length = 6 := by rw [hE4, List.length_append, eights_length]; omega
 have z5 : E5.length = 11 := by rw [hE5, List.length_append, eights_length]; omega
 have P1 := Aside0.mk (show num_Put.f [] a0_0 1 = some E1 from by rw [hE1]; exact put_some [] a0_0 1 (by omega) (by omega) (by simp))
 have P2 := Aside0.mk (show num_Put.f E1 a0_3 1 = some E2 from by rw [hE2]; exact put_some E1 a0_3 1 (by omega) (by omega) (by omega))
 have P3 := Aside0.mk (show num_Put.f E2 a0_1 2 = some E3 from by rw [hE3]; exact put_some E2 a0_1 2 (by omega) (by omega) (by omega))
 have P4 := Aside0.mk (show num_Put.f E3 a0_2 2 = some E4 from by rw [hE4]; exact put_some E3 a0_2 2 (by omega) (by omega) (by omega))
 have P5 := Aside0.mk (show num_Put.f E4 a0_4 5 = some E5 from by rw [hE5]; exact put_some E4 a0_4 5 (by omega) (by omega) (by omega))
 have HH := Aside0.mk (show E5 = sealHead a0_0 a0_1 a0_2 a0_3 a0_4 from by rw [hE5, hE4, hE3, hE2, hE1]; rfl)
 have Z5 := Aside0.mk z5
 clear hE1 hE2 hE3 hE4 hE5 z1 z2 z3 z4 z5
 have HX := Aside0.mk (show w1.heap[w.heap.size]? = some (.cells #[.int .i64 a0_0, .int .i64 a0_1, .int .i64 a0_2, .int .i64 a0_3, .int .i64 a0_4] 62 (0, 0)) from (HE.out.block _ (by simp)).trans (heap_alloc_new w _))
 have HX2 := Aside0.mk (show (w1.alloc (.cells zeroL.toArray 5)).heap[w.heap.size]? = some (.cells #[.int .i64 a0_0, .int .i64 a0_1, .int .i64 a0_2, .int .i64 a0_3, .int .i64 a0_4] 62 (0, 0)) from (heap_alloc_old w1 _ (blk_lt HX.out)).trans HX.out)
 have HZ := Aside0.mk (heap_alloc_new w1 (.cells zeroL.toArray 5))
 have HB2 := Aside0.mk (HB1.out.alloc HB1.out.size (.cells zeroL.toArray 5))
 have HG := Aside0.mk (HB1.out.size)
 have HN := Aside0.mk (blk_lt HX.out)
 clear HB0 HB1 HE HX
 generalize w1.alloc (.cells zeroL.toArray 5) = W2 at *
 generalize w1.heap.size = gz at *
 clear hmk
 have k0 := blk_cell HX2.out 0
 have k1 := blk_cell HX2.out 1
 have k3 := blk_cell HX2.out 3
 go_region_held3 (fun w' => w'.cell? ⟨w.heap.size, 0, none⟩ = some (.int .i64 a0_0) ∧ w'.cell? ⟨w.heap.size, 3, none⟩ = some (.int .i64 a0_3) ∧ w'.cell? ⟨w.heap.size, 1, none⟩ = some (.int .i64 a0_1)) (first | exact ⟨k0, k3, k1⟩ | go_keep)
  (first
   | (go_at_call_of 32 (Value.slice none 0 0); refine (num_Put.calls none 0 [] a0_0 1 E1 _ (Kd.C_nil _ _) (Nat.le_refl _) P1.out).mono ?_; rintro e w2 ⟨v2, rfl, ho, hb⟩; obtain ⟨A2, m2, he2, hm2, hC2⟩ := Kd.R_reads ho; subst he2; have HX3 := Aside0.mk (blk_below (blk_drew HX2.out) hb); have HZ3 := Aside0.mk (blk_below (blk_drew HZ.out) hb); have HB3 := Aside0.mk (below_step (below_drew HB2.out) hb); have HC2 := Aside0.mk hC2; have HM2 := Aside0.mk hm2; clear k0 k1 k3; have k0 := blk_cell HX3.out 0; have k1 := blk_cell HX3.out 1; have k3 := blk_cell HX3.out 3; clear ho hb hC2 hm2 HX2 HZ HB2)
   | (go_at_call_of 32 (Value.slice A2 E1.length m2); refine (num_Put.calls A2 m2 E1 a0_3 1 E2 _ HC2.out HM2.out P2.out).mono ?_; rintro e w3 ⟨v3, rfl, ho, hb⟩; obtain ⟨A3, m3, he3, hm3, hC3⟩ := Kd.R_reads ho; subst he3; have HX4 := Aside0.mk (blk_below HX3.out hb); have HZ4 := Aside0.mk (blk_below HZ3.out hb); have HB4 := Aside0.mk (below_step HB3.out hb); have HC3 := Aside0.mk hC3; have HM3 := Aside0.mk hm3; clear k0 k1 k3; have k0 := blk_cell HX4.out 0; have k1 := blk_cell HX4.out 1; have k3 := blk_cell HX4.out 3; clear ho hb hC3 hm3 HX3 HZ3 HB3)
   | (go_at_call_of 32 (Value.slice A3 E2.length m3); refine (num_Put.calls A3 m3 E2 a0_1 2 E3 _ HC3.out HM3.out P3.out).mono ?_; rintro e w4 ⟨v4, rfl, ho, hb⟩; obtain ⟨A4, m4, he4, hm4, hC4⟩ := Kd.R_reads ho; subst he4; have HX5 := Aside0.mk (blk_below HX4.out hb); have HZ5 := Aside0.mk (blk_below HZ4.out hb); have HB5 := Aside0.mk (below_step HB4.out hb); have HC4 := Aside0.mk hC4; have HM4 := Aside0.mk hm4; clear k0 k1 k3; have k0 := blk_cell HX5.out 0; have k1 := blk_cell HX5.out 1; have k3 := blk_cell HX5.out 3; clear ho hb hC4 hm4 HX4 HZ4 HB4))
 clear k0 k1 k3
 have k2 := blk_cell HX5.out 2
 have k4 := blk_cell HX5.out 4
 go_wp2
 go_outline
 go_region_held3 (fun w' => w'.cell? ⟨w.heap.size, 2, none⟩ = some (.int .i64 a0_2) ∧ w'.cell? ⟨w.heap.size, 4, none⟩ = some (.int .i64 a0_4)) (first | exact ⟨k2, k4⟩ | go_keep)
  (first
   | (go_at_call_of 32 (Value.slice A4 E3.length m4); refine (num_Put.calls A4 m4 E3 a0_2 2 E4 _ (Kd.C_drew HC4.out) HM4.out P4.out).mono ?_; rintro e w5 ⟨v5, rfl, ho, hb⟩; obtain ⟨A5, m5, he5, hm5, hC5⟩ := Kd.R_reads ho; subst he5; have HX6 := Aside0.mk (blk_below (blk_drew HX5.out) hb); have HZ6 := Aside0.mk (blk_below (blk_drew HZ5.out) hb); have HB6 := Aside0.mk (below_step (below_drew HB5.out) hb); have HC5 := Aside0.mk hC5; have HM5 := Aside0.mk hm5; clear k2 k4; have k2 := blk_cell HX6.out 2; have k4 := blk_cell HX6.out 4; clear ho hb hC5 hm5 HX5 HZ5 HB5)
   | (go_at_call_of 32 (Value.slice A5 E4.length m5); refine (num_Put.calls A5 m5 E4 a0_4 5 E5 _ HC5.out HM5.out P5.out).mono ?_; rintro e w6 ⟨v6, rfl, ho, hb⟩; obtain ⟨A6, m6, he6, hm6, hC6⟩ := Kd.R_reads ho; subst he6; have HX7 := Aside0.mk (blk_below HX6.out hb); have HZ7 := Aside0.mk (blk_below HZ6.out hb); have HB7 := Aside0.mk (below_step HB6.out hb); have HC6 := Aside0.mk hC6; have HM6 := Aside0.mk hm6; clear k2 k4; have k2 := blk_cell HX7.out 2; have k4 := blk_cell HX7.out 4; clear ho hb hC6 hm6 HX6 HZ6 HB6)
   | (refine step_copy_splice rfl (.tmp 27) (.tmp 34) 29 29 rfl 5 Try.underlying29 q8_ _ _ _ _ _ _ rfl rfl gz 4 zeroL 5 HZ7.out (nums .u8 E5) (by rw [nums_length, Z5.out]; rfl) (fun hp => ⟨rfl, C_src HC6.out hp⟩) (by rw [nums_length, Z5.out, zeroL_is, List.length_replicate]; omega) (nums_one _) gz _ (Below.refl _ _) (Nat.le_refl _) ?_; intro w7 hg7 hb7; have HX8 := Aside0.mk ((hb7.block _ HN.out).trans HX7.out); have HG8 := Aside0.mk hg7.out; have HB8 := Aside0.mk (HB7.out.trans (hb7.mono HG.out)); clear k2 k4; have k2 := blk_cell HX8.out 2; have k4 := blk_cell HX8.out 4; clear hg7 hb7 HX7 HZ7 HB7))
 clear k2 k4 HX8
 have HR2 := Aside0.mk (Kd.C_below HR1.out HB8.out)
 have HT := Aside0.mk (HT0.out E5 HH.out Z5.out)
 clear HT0 HH
 go_wp2_with (with_reducible refine wpList_copy_splice rfl (.tmp 37) (.tmp 38) 29 29 rfl 5 Try.underlying29 q8_ _ _ _ _ _ _ rfl rfl gz 20 _ 5 HG8.out (nums .u8 l1) (by rw [nums_length]; exact (Nat.min_eq_left HL1.out).symm) (fun hp => ⟨rfl, C_src HR2.out hp⟩) (by rw [nums_length, length_splice _ _ _ (by rw [nums_length, Z5.out, zeroL_is, List.length_replicate]; omega), zeroL_is, List.length_replicate]; have := HL1.out; omega) (nums_one _) gz _ (Below.refl _ _) (Nat.le_refl _) ?_; intro w8 hg8 hb8; have HG9 := Aside0.mk (copied hg8.out HT.out); have HB9 := Aside0.mk (HB8.out.trans (hb8.mono HG.out)); clear hg8 hb8 HG8 HB8 HR2)
 have HSc := sum_Sum.calls (some ⟨gz, 4, none⟩) 252 Rw s _ (blk_C HG9.out 4 Rw (fun j p h => by simpa using nums_at (List.replicate 4 0) Rw j p h) (by rw [RL.out]; decide)) (by rw [RL.out]; exact Nat.le_refl _) HS.out
 rw [RL.out] at HSc
 refine HSc.mono ?_
 rintro e w9 ⟨rfl, hb⟩
 have HG10 := Aside0.mk (blk_below HG9.out hb)
 have HB10 := Aside0.mk (below_step HB9.out hb)
 clear HSc hb HG9 HB9
 go_wp2_with fail
 refine (num_Put.calls none 0 [] (wrap64 s) 4 E6 _ (Kd.C_nil _ _) (Nat.le_refl _) P6.out).mono ?_
 rintro e w10 ⟨v10, rfl, ho, hb⟩
 obtain ⟨A7, m7, he7, hm7, hC7⟩ := Kd.R_reads ho
 subst he7
 have HG11 := Aside0.mk (blk_below HG10.out hb)
 have HB11 := Aside0.mk (below_step HB10.out hb)
 have HC7 := Aside0.mk hC7
 clear hC7 hb ho hm7 HG10 HB10
 have hf1 : (nums .u8 E6).length = Nat.min E6.length 256 := by rw [nums_length, Z6.out]; rfl
 have hf2 : 0 + (nums .u8 E6).length ≤ (nums .u8 (List.replicate 4 0 ++ Rw)).length := by rw [nums_length, nums_length, List.length_append, List.length_replicate, RL.out, Z6.out]; omega
 have HF1 := Aside0.mk hf1
 have HF2 := Aside0.mk hf2
 clear hf1 hf2
 go_wp2_with (with_reducible refine wpList_copy_splice rfl (.tmp 40) (.tmp 45) 29 29 rfl 5 Try.underlying29 q8_ _ _ _ _ _ _ rfl rfl gz 0 _ 5 HG11.out (nums .u8 E6) HF1.out (fun hp => ⟨rfl, C_src HC7.out hp⟩) HF2.out (nums_one _) gz _ (Below.refl _ _) (Nat.le_refl _) ?_; intro w11 hg11 hb11; have HG12 := Aside0.mk (copied hg11.out (seal_three E6 Rw Z6.out)); have HB12 := Aside0.mk (HB11.out.trans (hb11.mono HG.out)); clear hg11 hb11 HG11 HB11)
 go_ret2
 have hz := RL.out
 have hz6 := Z6.out
 exact ⟨_, rfl, Kd.R_of_own (enc := Value.int .u8) (h1 := fun _ => rfl) ⟨by simp [encs], Or.inr ⟨gz, 256, _, by rw [List.length_append, hz, hz6]; rfl, HG.out, HG12.out, by rw [List.length_append, hz, hz6]; omega, by decide, by simp [nums_length, hz, hz6], by rw [List.toList_toArray, List.take_of_length_le (by rw [nums_length]; omega)]; rfl⟩⟩ (fun _ _ => trivial), HB12.out⟩
/-! ### end of GIVEN -/
end Go.Proofs.Ytcjnknpbikfimaa.P
