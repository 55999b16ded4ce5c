/- Functions and contracts, written by a program (mkprint.py, a wrapper of ours around the print); texts between GIVEN marks are ours. -/
import Derived.Test.YtchhdnffhkifkaaPx0
namespace Go.Proofs.Ytchhdnffhkifkaa.P
open Go.RowKit Go.Proofs.YtchhdnffhkifkaaW.PrintWords Go.Proofs.YtchhdnffhkifkaaW.PrintLast Go.Proofs.YtchhdnffhkifkaaW.PrintMore
attribute [local go_sem] max2_int min2_int max_two min_two max_three min_three max_four min_four   -- for this text's walks alone
set_option linter.unusedVariables false
set_option linter.unusedSimpArgs false

/-! ### GIVEN sum_nibbles: function 14 -/
def tabRow (k : Nat) : Array Value := ((List.range 16).map fun i => if i < k then Value.int .u32 (Crc.tb i) else .int .u32 0).toArray
theorem tabRow_get (k : Nat) (h : k < 16) : (tabRow k)[k]? = some (.int .u32 0) := by simp [tabRow, h]
theorem tabRow_set (k : Nat) (h : k < 16) : (tabRow k).setIfInBounds k (.int .u32 (Crc.tb k)) = tabRow (k + 1) := by
  apply Array.ext
  · simp [tabRow]
  · intro i h1 h2
    simp [tabRow, List.getElem_set]
    by_cases e : k = i
    · subst e; simp
    · have : i < k + 1 ↔ i < k := by omega
      simp [e, this]
theorem tabRow_lit : tabRow 16 = #[.int .u32 (Crc.tb 0), .int .u32 (Crc.tb 1), .int .u32 (Crc.tb 2), .int .u32 (Crc.tb 3), .int .u32 (Crc.tb 4), .int .u32 (Crc.tb 5), .int .u32 (Crc.tb 6), .int .u32 (Crc.tb 7), .int .u32 (Crc.tb 8), .int .u32 (Crc.tb 9), .int .u32 (Crc.tb 10), .int .u32 (Crc.tb 11), .int .u32 (Crc.tb 12), .int .u32 (Crc.tb 13), .int .u32 (Crc.tb 14), .int .u32 (Crc.tb 15)] := rfl
theorem tabRow_one : ∀ v ∈ (tabRow 16).toList, v.oneCell' = true := by simp [tabRow_lit, Value.oneCell']
set_option maxHeartbeats 400000 in
theorem nib (w : World) : Calls Try.prog 14 #[] w fun e w' => e = .returned (.agg (tabRow 16)) ∧ Below w.heap.size w w' := by
  go_enter Try.func14, Try.ntmps14
  go_wp2
  go_loopw [4] (fun i wr => ∃ k : Nat, k ≤ 16 ∧ i = .int .i64 k ∧ wr = (w.alloc (.cells (tabRow 0) 35)).alloc (.cells (tabRow k) 35)) (fun i _ => 16 - (intOf i).toNat)
  case atStart => exact ⟨0, by omega, rfl, rfl⟩
  case round =>
    obtain ⟨k, hk, rfl, rfl⟩ := hrel
    by_cases hlt : k < 16
    · have hcell := tabRow_get k hlt
      go_wp2
      go_loop [3, 9] (fun r i => ∃ j : Nat, j ≤ 4 ∧ i = .int .i64 j ∧ r = .int .u32 (Crc.stpN j k)) (fun _ i => 4 - (intOf i).toNat)
      case atStart => exact ⟨0, by omega, rfl, by simp [Crc.stpN]⟩
      case round =>
        obtain ⟨j, hj, rfl, rfl⟩ := hrel
        by_cases hj4 : j < 4
        · go_wp2
          · rename_i h
            go_round
            case rel => exact ⟨j + 1, by omega, by go_num, by simp only [Crc.stpN, Crc.stp]; rw [if_pos (by simpa using h)]⟩
            case measure => simp [intOf]; omega
          · rename_i h
            go_round
            case rel => exact ⟨j + 1, by omega, by go_num, by simp only [Crc.stpN, Crc.stp]; rw [if_neg (by simpa using h)]⟩
            case measure => simp [intOf]; omega
        · obtain rfl : j = 4 := by omega
          go_wp2
          go_roundw
          case rel => exact ⟨k + 1, by omega, by go_num, by rw [← tabRow_set k hlt]; rfl⟩
          case measure => simp [intOf]; omega
    · obtain rfl : k = 16 := by omega
      go_wp2_with (first | (refine wpList_load_row rfl 35 _ rfl (w.heap.size + 1) rfl 35 (tabRow 16) (0, 0) _ (heap_alloc2_new w _ _) Try.underlying35 rfl (by kernel_rfl) ?_) | (refine Own.wpList_store_row rfl 35 _ _ rfl w.heap.size rfl (tabRow 16) rfl 35 (tabRow 0) (heap_alloc2_old w _ _) (by kernel_rfl) rfl tabRow_one ?_))
      rw [Own.setRow_alloc_past _ _ _ _ (by simp), Own.setRow_alloc_at _ _ _ _ _ rfl]
      go_wp2
      exact bodyPost_ret (v := .agg (tabRow 16)) (results_cell_row rfl _ _ w.heap.size 35 (tabRow 16) (0, 0) _ rfl (heap_alloc2_old w _ _) Try.underlying35 rfl (by kernel_rfl)) rfl ⟨rfl, ((Below.refl _ _).alloc (Nat.le_refl _) _).alloc (by simp) _⟩
/-! ### end of GIVEN -/
/-! ### GIVEN sum_More: function 12 -/
theorem tab_at (x : Int) (h0 : 0 ≤ x) (h1 : x < 16) : (tabRow 16)[x.toNat]? = some (.int .u32 (Crc.tb x.toNat)) := by
  have : x.toNat < 16 := by omega
  simp [tabRow, this]
def sum_More.f (a0 : Int) (l1 : List Int) : Option Int := some (Crc.moreI a0 l1)
theorem fold_take (l : List Int) (a : Int) (k : Nat) (h : k < l.length) : (l.take (k + 1)).foldl Crc.moreStep a = Crc.moreStep ((l.take k).foldl Crc.moreStep a) (rd l k) := by
  rw [List.take_succ_eq_append_getElem h, List.foldl_append]
  simp [rd, List.getD_eq_getElem?_getD, h]
set_option maxHeartbeats 400000 in
theorem sum_More.calls (a0 : Int) (A1 : Option Addr) (c1 : Nat) (l1 : List Int) (r : Int) (w : World) (hr1 : Kd.C (Kd.int .u8) w A1 l1.length l1) (hc1 : l1.length ≤ c1) (h : sum_More.f a0 l1 = some r) :
    Calls Try.prog 12 #[.int .u32 a0, .slice A1 l1.length c1] w fun e w' => e = .returned (.int .u32 r) ∧ Below w.heap.size w w' := by
  have HR1 := Aside0.mk hr1
  have HC1 := Aside0.mk hc1
  have HL := Aside0.mk hr1.2.1
  clear hr1 hc1
  have H' := Aside0.mk h
  clear h
  go_enter Try.func12, Try.ntmps12
  go_wp2_with (first | (go_at_call 14; refine (nib _).mono ?_; rintro e w1 ⟨rfl, hb⟩) | (refine Own.wpList_store_row rfl 35 _ _ rfl _ rfl (tabRow 16) rfl 35 _ (heap_alloc_new _ _) (by kernel_rfl) rfl tabRow_one ?_; rw [Own.setRow_alloc_at _ _ _ _ _ rfl]))
  have HB := Aside0.mk (hb.alloc hb.size (.cells (tabRow 16) 35))
  have HR2 := Aside0.mk (Kd.C_below HR1.out HB.out)
  clear hb HR1
  go_loop [6, 14] (fun v i => ∃ k : Nat, k ≤ l1.length ∧ i = .int .i64 k ∧ v = .int .u32 ((l1.take k).foldl Crc.moreStep (Go.bits .xor .u32 4294967295 a0))) (fun _ i => l1.length - (intOf i).toNat)
  case atStart => exact ⟨0, by omega, rfl, rfl⟩
  case round =>
    obtain ⟨k, hk, rfl, rfl⟩ := hrel
    have hm := HL.out
    by_cases hlt : k < l1.length
    · have HF := Aside0.mk (fold_take l1 (Go.bits .xor .u32 4294967295 a0) k hlt)
      generalize hx : (l1.take k).foldl Crc.moreStep (Go.bits .xor .u32 4294967295 a0) = x at HF
      clear hx
      obtain ⟨ad, rfl, hcell⟩ := Kd.at_int HR2.out (k : Int) (by omega) (by omega)
      rw [Int.toNat_natCast] at hcell
      have e1 := Crc.and15 (Go.bits .xor .u32 x (rd l1 k % 4294967296))
      have t1 := tab_at _ e1.1 e1.2
      have e2 := Crc.and15 (Go.bits .xor .u32 (Go.bits .xor .u32 x (rd l1 k % 4294967296) / 16) (Crc.tb (Go.bits .and .u32 (Go.bits .xor .u32 x (rd l1 k % 4294967296)) 15).toNat))
      have t2 := tab_at _ e2.1 e2.2
      go_wp2
      go_round
      case rel => exact ⟨k + 1, by omega, by go_num, by rw [HF.out]; rfl⟩
      case measure => simp [intOf]; omega
    · obtain rfl : k = l1.length := by omega
      go_wp2
      go_ret
      have := H'.out

      exact ⟨by simp only [sum_More.f, Crc.moreI] at this; injection this with this; rw [← this]; rfl, HB.out⟩
/-! ### end of GIVEN -/
/-! ### sum_Sum: function 10 -/
def sum_Sum.f (l0 : List Int) : Option (Int) := (sum_More.f 0 l0).bind fun t101 => (some t101)
set_option maxHeartbeats 8000000 in
set_option maxRecDepth 100000 in
theorem sum_Sum.calls (A0 : Option Addr) (c0 : Nat) (l0 : List Int) (r : Int) (w : World) (hr0 : Kd.C (Kd.int .u8) w A0 l0.length l0) (hc0 : l0.length ≤ c0) (h : sum_Sum.f l0 = some r) :
    Calls Try.prog 10 #[.slice A0 l0.length c0] w fun e w' => e = .returned (.int .u32 r) ∧ Below w.heap.size w w' := by
  have HR0 := Aside0.mk hr0
  have HC0 := Aside0.mk hc0
  clear hr0 hc0
  have HB := Aside0.mk (Below.refl w.heap.size w)
  have H : ((sum_More.f 0 l0).bind fun t101 => (some t101)) = some r := h
  clear h
  replace H := Option.bind_eq_some_iff.mp H
  obtain ⟨t101, A20, H⟩ := H
  replace H : (some t101) = some r := H
  have A2 := Aside0.mk A20
  clear A20
  obtain rfl := Option.some.inj H
  go_enter Try.func10, Try.ntmps10
  go_wp2_with (first | ((with_reducible refine gate_callee (f := 12) rfl ?_); refine goesL_ (some 4) rfl rfl Try.func12 (by kernel_rfl) rfl #[.int .u32 0, .slice A0 l0.length c0] rfl (by (try simp only [List.map_toArray, List.map_cons, List.map_nil]); first | done | rfl | (simp only [List.length_drop, List.length_take]; rfl)) ?_; (with_reducible refine (sum_More.calls 0 _ _ l0 t101 _ ?side1 ?side2 A2.out).mono ?_); (case side1 => repeat (first | exact HR0.out | (with_reducible refine Kd.C_alloc ?_ _) | (with_reducible refine Kd.C_drewN ?_ _) | (with_reducible refine Kd.C_drew ?_))); (case side2 => exact HC0.out); rintro e w3 ⟨rfl, hb⟩; refine ⟨_, rfl, ?_⟩; have n0_ := Aside0.mk (below_step (by repeat (first | (with_reducible first | exact HB.out | apply below_alloc | apply pw_below_drewN | apply below_drew1) | exact HB.out)) hb); clear HB; have HB := n0_; clear n0_; (try clear hb); (try clear hb2); (try clear hk); (try clear hi)))
  go_ret
  exact ⟨by first | rfl | (simp [errW_none, errW_some] <;> rfl) | (simp [*, errW_none, errW_some] <;> rfl), by repeat (first | (with_reducible first | exact HB.out | apply below_alloc | apply pw_below_drewN | apply below_drew1) | exact HB.out)⟩

/-! ### GIVEN cambiumlaw02_shown: function 8 -/
def cambiumlaw02_shown.f : Option Bool := some true
set_option maxHeartbeats 400000 in
theorem cambiumlaw02_shown.calls (r : Bool) (w : World) (h : cambiumlaw02_shown.f = some r) :
    Calls Try.prog 8 #[] w fun e w' => e = .returned (.bool r) ∧ Below w.heap.size w w' := by
  obtain rfl : true = r := by injection h
  have kc := fun (w : World) (C : Array Value) (n c : Nat) => Lib.run_convert_bytes_const (P := Try.prog) w 22 5 C n c Try.underlying22 Try.underlying5
  have v1 : sum_Sum.f [49, 50, 51, 52, 53, 54, 55, 56, 57] = some 3808858755 := by decide +kernel
  have v2 : sum_Sum.f [] = some 0 := by decide +kernel
  have V1 := Aside0.mk v1
  have V2 := Aside0.mk v2
  clear v1 v2
  have HR := Aside0.mk (Own.marked_reads w 5 [49, 50, 51, 52, 53, 54, 55, 56, 57] _ (9, 10) rfl (by decide))
  have HB := Aside0.mk ((Below.refl w.heap.size w).alloc (Nat.le_refl _) (.cells #[.int .u8 49, .int .u8 50, .int .u8 51, .int .u8 52, .int .u8 53, .int .u8 54, .int .u8 55, .int .u8 56, .int .u8 57] 5 (9, 10)))
  go_enter Try.func8, Try.ntmps8
  go_wp2_with fail
  go_at_call 10
  refine (sum_Sum.calls _ _ [49, 50, 51, 52, 53, 54, 55, 56, 57] _ _ HR.out (by decide) V1.out).mono ?_
  rintro e w1 ⟨rfl, hb⟩
  have HB1 := Aside0.mk (below_step HB.out hb)
  clear hb
  go_wp2_with fail
  go_at_call 10
  refine (sum_Sum.calls _ _ [] _ _ (Kd.C_nil _ _) (by decide) V2.out).mono ?_
  rintro e w2 ⟨rfl, hb⟩
  have HB2 := Aside0.mk (below_step HB1.out hb)
  clear hb
  go_wp2
  go_ret
  exact ⟨rfl, HB2.out⟩
/-! ### end of GIVEN -/
/-! ### cambiumlaw02_SumParts: function 5 -/
mutual
def cambiumlaw02_SumParts.l0 : Nat → List (List Int) → Bool → List Int → Int → Int → Option (Bool)
  | 0, _, _, _, _, _ => none
  | k + 1, x0, x3, x4, x5, x6 => if x6 < (x0.length : Int) then (cambiumlaw02_SumParts.j1 k x0 x3 x4 x5 x6 (decide (x6 < 20))) else (cambiumlaw02_SumParts.j1 k x0 x3 x4 x5 x6 false)
def cambiumlaw02_SumParts.j1 : Nat → List (List Int) → Bool → List Int → Int → Int → Bool → Option (Bool)
  | 0, _, _, _, _, _, _ => none
  | k + 1, x0, x3, x4, x5, x6, x18 => if x18 = true then (if 0 ≤ x6 then (if x6 < (x0.length : Int) then (if ((rd_L2 x0 x6).length : Int) > 100 then (if 100 ≤ ((rd_L2 x0 x6).length : Int) then (if x4.length + ((rd_L2 x0 x6).take 100).length < 140737488355328 then ((sum_More.f x5 ((rd_L2 x0 x6).take 100)).bind fun t112 => (cambiumlaw02_SumParts.l0 k x0 x3 (x4 ++ ((rd_L2 x0 x6).take 100)) t112 (wrap64 (x6 + 1)))) else (none)) else (none)) else (if x4.length + (rd_L2 x0 x6).length < 140737488355328 then ((sum_More.f x5 (rd_L2 x0 x6)).bind fun t116 => (cambiumlaw02_SumParts.l0 k x0 x3 (x4 ++ (rd_L2 x0 x6)) t116 (wrap64 (x6 + 1)))) else (none))) else (none)) else (none)) else (if x3 = true then ((sum_Sum.f x4).bind fun t117 => (some (x5 == t117))) else (some false))
end
def cambiumlaw02_SumParts.f (k : Nat) (l0 : List (List Int)) : Option (Bool) := (cambiumlaw02_shown.f).bind fun t102 => ((sum_Sum.f ([] : List Int)).bind fun t106 => (cambiumlaw02_SumParts.l0 k l0 t102 (([] : List Int)) t106 0))
theorem cambiumlaw02_SumParts.mono_l : ∀ k, (∀ y0 y1 y2 y3 y4, LeO (cambiumlaw02_SumParts.l0 k y0 y1 y2 y3 y4) (cambiumlaw02_SumParts.l0 (k + 1) y0 y1 y2 y3 y4)) ∧ (∀ y0 y1 y2 y3 y4 y5, LeO (cambiumlaw02_SumParts.j1 k y0 y1 y2 y3 y4 y5) (cambiumlaw02_SumParts.j1 (k + 1) y0 y1 y2 y3 y4 y5))
  | 0 => ⟨fun _ _ _ _ _ r h => by simp [cambiumlaw02_SumParts.l0] at h, fun _ _ _ _ _ _ r h => by simp [cambiumlaw02_SumParts.j1] at h⟩
  | k + 1 => by
    obtain ⟨ih0, ih1⟩ := cambiumlaw02_SumParts.mono_l k
    refine ⟨?_, ?_⟩
    · intro y0 y1 y2 y3 y4
      unfold cambiumlaw02_SumParts.l0
      repeat' first
      | (with_reducible exact ih0 _ _ _ _ _)
      | (with_reducible exact ih1 _ _ _ _ _ _)
      | (with_reducible exact LeO.refl _)
      | (with_reducible exact LeO.none _)
      | (with_reducible refine LeO.ite ?_ ?_)
      | (with_reducible refine LeO.bind ?_ (fun _ => ?_))
      | exact ih0 _ _ _ _ _
      | exact ih1 _ _ _ _ _ _
      | exact LeO.none _
      | refine LeO.ite ?_ ?_
      | refine LeO.bind ?_ (fun _ => ?_)
    · intro y0 y1 y2 y3 y4 y5
      unfold cambiumlaw02_SumParts.j1
      repeat' first
      | (with_reducible exact ih0 _ _ _ _ _)
      | (with_reducible exact ih1 _ _ _ _ _ _)
      | (with_reducible exact LeO.refl _)
      | (with_reducible exact LeO.none _)
      | (with_reducible refine LeO.ite ?_ ?_)
      | (with_reducible refine LeO.bind ?_ (fun _ => ?_))
      | exact ih0 _ _ _ _ _
      | exact ih1 _ _ _ _ _ _
      | exact LeO.none _
      | refine LeO.ite ?_ ?_
      | refine LeO.bind ?_ (fun _ => ?_)
theorem cambiumlaw02_SumParts.mono : ∀ a0 k, LeO (cambiumlaw02_SumParts.f k a0) (cambiumlaw02_SumParts.f (k + 1) a0) := by
  intro a0 k
  obtain ⟨ih0, ih1⟩ := cambiumlaw02_SumParts.mono_l k
  unfold cambiumlaw02_SumParts.f
  repeat' first
      | (with_reducible exact ih0 _ _ _ _ _)
      | (with_reducible exact ih1 _ _ _ _ _ _)
      | (with_reducible exact LeO.refl _)
      | (with_reducible exact LeO.none _)
      | (with_reducible refine LeO.ite ?_ ?_)
      | (with_reducible refine LeO.bind ?_ (fun _ => ?_))
      | exact ih0 _ _ _ _ _
      | exact ih1 _ _ _ _ _ _
      | exact LeO.none _
      | refine LeO.ite ?_ ?_
      | refine LeO.bind ?_ (fun _ => ?_)
set_option maxHeartbeats 8000000 in
set_option maxRecDepth 100000 in
theorem cambiumlaw02_SumParts.calls (k : Nat) (A0 : Option Addr) (c0 : Nat) (l0 : List (List Int)) (r : Bool) (w : World) (hr0 : Kd.C (Kd.slice 5 (Kd.int .u8)) w A0 l0.length l0) (hc0 : l0.length ≤ c0) (h : cambiumlaw02_SumParts.f k l0 = some r) :
    Calls Try.prog 5 #[.slice A0 l0.length c0] w fun e w' => e = .returned (.bool r) ∧ Below w.heap.size w w' := by
  have HR0 := Aside0.mk hr0
  have HC0 := Aside0.mk hc0
  clear hr0 hc0
  have HB := Aside0.mk (Below.refl w.heap.size w)
  have H : ((cambiumlaw02_shown.f).bind fun t102 => ((sum_Sum.f ([] : List Int)).bind fun t106 => (cambiumlaw02_SumParts.l0 k l0 t102 (([] : List Int)) t106 0))) = some r := h
  clear h
  replace H := Option.bind_eq_some_iff.mp H
  obtain ⟨t102, A20, H⟩ := H
  replace H : ((sum_Sum.f ([] : List Int)).bind fun t106 => (cambiumlaw02_SumParts.l0 k l0 t102 (([] : List Int)) t106 0)) = some r := H
  have A2 := Aside0.mk A20
  clear A20
  obtain ⟨y103, hy103⟩ : ∃ y_ : List Int, y_ = (([] : List Int)) := ⟨_, rfl⟩
  replace H : ((sum_Sum.f ([] : List Int)).bind fun t106 => (cambiumlaw02_SumParts.l0 k l0 t102 y103 t106 0)) = some r := by first | (rw [hy103]; with_reducible exact H) | (have H2_ := (Option.bind_some _ _).symm.trans H; rw [hy103]; with_reducible exact H2_) | (have H2_ := (Option.bind_some _ _).symm.trans H; with_reducible exact H2_) | with_reducible exact H | (rw [hy103]; exact H) | exact H
  have Ny103 := Aside0.mk hy103
  clear hy103
  replace H := Option.bind_eq_some_iff.mp H
  obtain ⟨t106, A30, H⟩ := H
  replace H : (cambiumlaw02_SumParts.l0 k l0 t102 y103 t106 0) = some r := H
  have A3 := Aside0.mk A30
  clear A30
  have H' := Aside0.mk H
  clear H
  go_enter Try.func5, Try.ntmps5
  go_wp2_with (first | ((with_reducible refine gate_callee (f := 8) rfl ?_); refine goesL_ (some 8) rfl rfl Try.func8 (by kernel_rfl) rfl #[] rfl (by (try simp only [List.map_toArray, List.map_cons, List.map_nil]); first | done | rfl | (simp only [List.length_drop, List.length_take]; rfl)) ?_; (with_reducible refine (cambiumlaw02_shown.calls  t102 _ A2.out).mono ?_); rintro e w4 ⟨rfl, hb⟩; refine ⟨_, rfl, ?_⟩; have n0_ := Aside0.mk (below_step (by repeat (first | (with_reducible first | exact HB.out | apply below_alloc | apply pw_below_drewN | apply below_drew1) | exact HB.out)) hb); clear HB; have HB := n0_; clear n0_; (try clear hb); (try clear hb2); (try clear hk); (try clear hi)) | ((with_reducible refine gate_dst (N := 9) rfl ?_); refine Kd.R_lit (Kd.int .u8) _ 5 ?hg (N := 9) ?hd (xs := ([] : List Int)) (inner := []) (ok := fun _ => True) (okp := fun _ => True) ?hr ?hp (fun _ hk => hk) trivial (Below.refl _ _) (Nat.le_refl _) (by simp) ?_; (case hd => rfl); (case hg => rfl); (case hr => first | (go_simp; done) | (go_simp; rfl)); (case hp => exact (Reps.none _ _)); intro v104 w5 ho6 hb hg_ hnew_; clear hg_ hnew_; (first | rw [← Ny103.out] at ho6 | (simp only [Int.reduceToNat] at ho6; rw [← Ny103.out] at ho6)); have n0_ := Aside0.mk (Kd.R_lower ho6 (below_size (by repeat (first | (with_reducible first | exact HB.out | apply below_alloc | apply pw_below_drewN | apply below_drew1) | exact HB.out)))); have n1_ := Aside0.mk (below_step (by repeat (first | (with_reducible first | exact HB.out | apply below_alloc | apply pw_below_drewN | apply below_drew1) | exact HB.out)) hb); clear HB; have HO105 := n0_; have HB := n1_; clear n0_ n1_; clear hb ho6) | ((with_reducible refine gate_callee (f := 10) rfl ?_); refine goesL_ (some 10) rfl rfl Try.func10 (by kernel_rfl) rfl #[.slice none 0 0] rfl (by (try simp only [List.map_toArray, List.map_cons, List.map_nil]); first | done | rfl | (simp only [List.length_drop, List.length_take]; rfl)) ?_; (refine (sum_Sum.calls _ _ ([] : List Int) t106 _ ?side1 ?side2 A3.out).mono ?_); (case side1 => exact Kd.C_nil _ _); (case side2 => exact Nat.le_refl _); rintro e w7 ⟨rfl, hb⟩; refine ⟨_, rfl, ?_⟩; have n0_ := Aside0.mk (Kd.R_below (by (with_reducible repeat (first | apply Kd.R_alloc | apply Kd.R_drewN | apply Kd.R_drew)); exact HO105.out) hb); have n1_ := Aside0.mk (below_step (by repeat (first | (with_reducible first | exact HB.out | apply below_alloc | apply pw_below_drewN | apply below_drew1) | exact HB.out)) hb); clear HO105; clear HB; have HO105 := n0_; have HB := n1_; clear n0_ n1_; (try clear hb); (try clear hb2); (try clear hk); (try clear hi)))
  go_loopg [4, 5, 6] k (fun kq v4 v5 v6 w' => ∃ (x4_1 : List Int) (x5_1 : Int) (x6_1 : Int), v5 = .int .u32 x5_1 ∧ v6 = .int .i64 x6_1 ∧ Aside0 (cambiumlaw02_SumParts.l0 kq l0 t102 x4_1 x5_1 x6_1 = some r) ∧ Aside0 (kq ≤ k) ∧ Aside0 (Kd.R (Kd.int .u8) 5 w' w.heap.size (fun _ => True) v4 x4_1) ∧ Aside0 (Below w.heap.size w w'))
  case atStart => exact ⟨(y103), (t106), (0), (by first | rfl | (simp; done) | (simp [*]; done)), (by first | rfl | (simp; done) | (simp [*]; done)), H', ⟨Nat.le_refl _⟩, ⟨by (with_reducible repeat (first | apply Kd.R_alloc | apply Kd.R_drewN | apply Kd.R_drew)); exact HO105.out⟩, ⟨by repeat (first | (with_reducible first | exact HB.out | apply below_alloc | apply pw_below_drewN | apply below_drew1) | exact HB.out)⟩⟩
  case round =>
    clear H'
    try clear c1
    try clear p2
    try clear c5
    obtain ⟨x4_1, x5_1, x6_1, rfl, rfl, HA, HK1, HO_4, HB⟩ := hrel
    cases gk with
    | zero => exact absurd HA.out (by simp [cambiumlaw02_SumParts.l0])
    | succ k1 =>
      have H := HA.out
      clear HA
      simp only [cambiumlaw02_SumParts.l0] at H
      have HC8 := Aside0.mk H
      clear H
      go_upto_region 5 with (fail)
      go_cut [18] (fun v18 wc => ∃ (kq : Nat) (x18_7 : Bool), v18 = .bool x18_7 ∧ Aside0 (cambiumlaw02_SumParts.j1 kq l0 t102 x4_1 x5_1 x6_1 x18_7 = some r) ∧ Aside0 (kq ≤ k1) ∧ Aside0 (Kd.R (Kd.int .u8) 5 wc w.heap.size (fun _ => True) u4 x4_1) ∧ Aside0 (Below w.heap.size w wc))
      case first =>
        have H := HC8.out
        clear HC8
        by_cases c9 : x6_1 < (l0.length : Int)
        · rw [if_pos c9] at H
          have c9b0 : decide (x6_1 < (l0.length : Int)) = true := decide_eq_true c9
          clear c9
          (first | rw [c9b0] | (simp only [i64_w, i32_w]; rw [c9b0]) | skip)
          have H' := Aside0.mk H
          clear H
          go_wp2
          go_meet
          case rel => exact ⟨_, (decide (x6_1 < 20)), (by first | rfl | (simp; done) | (simp [*]; done)), H', ⟨by have := HK1.out; first | omega | exact Nat.le_refl _⟩, ⟨by (with_reducible repeat (first | apply Kd.R_alloc | apply Kd.R_drewN | apply Kd.R_drew)); exact HO_4.out⟩, ⟨by repeat (first | (with_reducible first | exact HB.out | apply below_alloc | apply pw_below_drewN | apply below_drew1) | exact HB.out)⟩⟩
        · rw [if_neg c9] at H
          have c9b0 : decide (x6_1 < (l0.length : Int)) = false := decide_eq_false c9
          clear c9
          (first | rw [c9b0] | (simp only [i64_w, i32_w]; rw [c9b0]) | skip)
          have H' := Aside0.mk H
          clear H
          go_wp2
          go_meet
          case rel => exact ⟨_, (false), (by first | rfl | (simp; done) | (simp [*]; done)), H', ⟨by have := HK1.out; first | omega | exact Nat.le_refl _⟩, ⟨by (with_reducible repeat (first | apply Kd.R_alloc | apply Kd.R_drewN | apply Kd.R_drew)); exact HO_4.out⟩, ⟨by repeat (first | (with_reducible first | exact HB.out | apply below_alloc | apply pw_below_drewN | apply below_drew1) | exact HB.out)⟩⟩
      case rest =>
        clear HC8
        try clear c1
        try clear p2
        try clear c5
        try clear c8
        try clear c9
        try clear c9b0
        try clear p2
        obtain ⟨kq, x18_7, rfl, HA, HJ7, HO_4, HB⟩ := hcut
        cases kq with
        | zero => exact absurd HA.out (by simp [cambiumlaw02_SumParts.j1])
        | succ kj7 =>
          have H := HA.out
          clear HA
          simp only [cambiumlaw02_SumParts.j1] at H
          by_cases c10 : x18_7 = true
          · subst c10
            have H1 : (if 0 ≤ x6_1 then (if x6_1 < (l0.length : Int) then (if ((rd_L2 l0 x6_1).length : Int) > 100 then (if 100 ≤ ((rd_L2 l0 x6_1).length : Int) then (if x4_1.length + ((rd_L2 l0 x6_1).take 100).length < 140737488355328 then ((sum_More.f x5_1 ((rd_L2 l0 x6_1).take 100)).bind fun t112 => (cambiumlaw02_SumParts.l0 kj7 l0 t102 (x4_1 ++ ((rd_L2 l0 x6_1).take 100)) t112 (wrap64 (x6_1 + 1)))) else (none)) else (none)) else (if x4_1.length + (rd_L2 l0 x6_1).length < 140737488355328 then ((sum_More.f x5_1 (rd_L2 l0 x6_1)).bind fun t116 => (cambiumlaw02_SumParts.l0 kj7 l0 t102 (x4_1 ++ (rd_L2 l0 x6_1)) t116 (wrap64 (x6_1 + 1)))) else (none))) else (none)) else (none)) = some r := by rw [if_pos rfl] at H; exact H
            clear H
            have H := H1
            clear H1
            by_cases c11 : 0 ≤ x6_1
            · rw [if_pos c11] at H
              have c11b0 : decide (0 ≤ x6_1) = true := decide_eq_true c11
              clear c11
              by_cases c12 : x6_1 < (l0.length : Int)
              · rw [if_pos c12] at H
                have c12b0 : decide (x6_1 < (l0.length : Int)) = true := decide_eq_true c12
                clear c12
                by_cases c13 : ((rd_L2 l0 x6_1).length : Int) > 100
                · rw [if_pos c13] at H
                  have c13b0 : decide (100 < ((rd_L2 l0 x6_1).length : Int)) = true := decide_eq_true c13
                  have c13b1 : decide (100 < (rd_L2 l0 x6_1).length) = true := decide_eq_true (by omega)
                  clear c13
                  by_cases c14 : 100 ≤ ((rd_L2 l0 x6_1).length : Int)
                  · rw [if_pos c14] at H
                    have c14b0 := eq_true c14
                    have c14b1 : decide (100 ≤ ((rd_L2 l0 x6_1).length : Int)) = true := decide_eq_true c14
                    clear c14
                    by_cases c15 : x4_1.length + ((rd_L2 l0 x6_1).take 100).length < 140737488355328
                    · rw [if_pos c15] at H
                      have LMc15 := Aside0.mk c15
                      clear c15
                      obtain ⟨y109, hy109⟩ : ∃ y_ : List Int, y_ = (x4_1 ++ ((rd_L2 l0 x6_1).take 100)) := ⟨_, rfl⟩
                      replace H : ((sum_More.f x5_1 ((rd_L2 l0 x6_1).take 100)).bind fun t112 => (cambiumlaw02_SumParts.l0 kj7 l0 t102 y109 t112 (wrap64 (x6_1 + 1)))) = some r := by first | (rw [hy109]; with_reducible exact H) | (have H2_ := (Option.bind_some _ _).symm.trans H; rw [hy109]; with_reducible exact H2_) | (have H2_ := (Option.bind_some _ _).symm.trans H; with_reducible exact H2_) | with_reducible exact H | (rw [hy109]; exact H) | exact H
                      have Ny109 := Aside0.mk hy109
                      clear hy109
                      replace H := Option.bind_eq_some_iff.mp H
                      obtain ⟨t112, A160, H⟩ := H
                      replace H : (cambiumlaw02_SumParts.l0 kj7 l0 t102 y109 t112 (wrap64 (x6_1 + 1))) = some r := H
                      have A16 := Aside0.mk A160
                      clear A160
                      have H' := Aside0.mk H
                      clear H
                      have p107 : 0 ≤ (x6_1 : Int) := of_decide_eq_true (by first | (with_reducible assumption) | assumption)
                      have q107 : x6_1 < (l0.length : Int) := of_decide_eq_true (by first | (with_reducible assumption) | assumption)
                      obtain ⟨ad107, A107_0, c107_0, e107, hx107_0, hl107_0, hi107_0⟩ := at_L2 HR0.out x6_1 p107 q107
                      cases e107
                      replace hx107_0 := (HB.out.cell (World.block_lt_of_cell? w _ hx107_0)).trans hx107_0
                      have HR107_0 := Aside0.mk hi107_0
                      have HC107_0 := Aside0.mk hl107_0
                      clear hi107_0 hl107_0
                      replace p107 := eq_true p107
                      replace q107 := eq_true q107
                      obtain ⟨i017, hi017, _, hsz17, _⟩ := info_parts info5
                      obtain ⟨hcut17, hA17, hC17⟩ := print_take_of (P := Try.prog) (Value.int .u8) 0 22 5 .i64 Try.underlying22 hi017 hsz17 A107_0 c107_0 (rd_L2 l0 x6_1) 100 (by omega) (of_decide_eq_true (by first | (with_reducible assumption) | assumption)) HC107_0.out
                      have HR108 := Aside0.mk (Kd.C_of_reads (h1 := fun _ => rfl) (hA17 _ (Kd.reads_of_C HR107_0.out)))
                      have HC108 := Aside0.mk hC17
                      clear hA17 hC17 hi017 hsz17
                      go_wp2_with (first | ((with_reducible refine gate_builtin (b := .append) (xs := #[.tmp 30, .tmp 31]) rfl ?_); at_builtin; refine Kd.R_append_rows (Kd.int .u8) (w0 := w) w.heap.size rfl (.tmp 30) (.tmp 31) 22 5 (.int .u8 0) 1 rfl Try.underlying22 info5 rfl (by decide) (by omega) u4 x4_1 ((rd_L2 l0 x6_1).take 100) _ _ _ (fun _ => True) (fun _ => False) rfl rfl ?aO ?aR (fun _ _ h => h) (fun _ h => h.elim) ?aF ?aB ?aS ?aL ?_; (case aR => first | (rw [← List.length_take]; repeat (first | exact (Kd.C_below HR108.out HB.out) | (with_reducible refine Kd.C_alloc ?_ _) | (with_reducible refine Kd.C_drewN ?_ _) | (with_reducible refine Kd.C_drew ?_))) | (rw [← show ((rd_L2 l0 x6_1).take 100).length = 100 from (by rw [List.length_take]; have h_ : (100 : Int) ≤ ((rd_L2 l0 x6_1).length : Int) := of_decide_eq_true (by first | (with_reducible assumption) | assumption); omega)]; repeat (first | exact (Kd.C_below HR108.out HB.out) | (with_reducible refine Kd.C_alloc ?_ _) | (with_reducible refine Kd.C_drewN ?_ _) | (with_reducible refine Kd.C_drew ?_))) | (repeat (first | exact (Kd.C_below HR108.out HB.out) | (with_reducible refine Kd.C_alloc ?_ _) | (with_reducible refine Kd.C_drewN ?_ _) | (with_reducible refine Kd.C_drew ?_)))); (case aB => exact (by repeat (first | (with_reducible first | exact HB.out | apply below_alloc | apply pw_below_drewN | apply below_drew1) | exact HB.out))); (case aF => exact (fun _ _ => trivial)); (case aO => exact (by (with_reducible repeat (first | apply Kd.R_alloc | apply Kd.R_drewN | apply Kd.R_drew)); exact HO_4.out)); (case aS => exact (below_size (by repeat (first | (with_reducible first | exact HB.out | apply below_alloc | apply pw_below_drewN | apply below_drew1) | exact HB.out)))); (case aL => have := LMc15.out; have hlx_ := (show ((rd_L2 l0 x6_1).take 100).length = 100 from (by rw [List.length_take]; have h_ : (100 : Int) ≤ ((rd_L2 l0 x6_1).length : Int) := of_decide_eq_true (by first | (with_reducible assumption) | assumption); omega)); omega); intro v110 w18 ho hb hg hat; rw [← Ny109.out] at ho; have n0_ := Aside0.mk (hb); have n1_ := Aside0.mk (ho); clear HB; clear HO_4; have HB := n0_; have HO111 := n1_; clear n0_ n1_; clear ho hb hg hat) | ((with_reducible refine gate_callee (f := 12) rfl ?_); refine goesL_ (some 35) rfl rfl Try.func12 (by kernel_rfl) rfl #[.int .u32 x5_1, .slice A107_0 ((rd_L2 l0 x6_1).take 100).length c107_0] rfl (by (try simp only [List.map_toArray, List.map_cons, List.map_nil]); first | done | (rw [show ((rd_L2 l0 x6_1).take 100).length = 100 from (by rw [List.length_take]; have h_ : (100 : Int) ≤ ((rd_L2 l0 x6_1).length : Int) := of_decide_eq_true (by first | (with_reducible assumption) | assumption); omega)] <;> rfl) | rfl | (simp only [List.length_drop, List.length_take]; rfl)) ?_; (with_reducible refine (sum_More.calls x5_1 _ _ ((rd_L2 l0 x6_1).take 100) t112 _ ?side1 ?side2 A16.out).mono ?_); (case side1 => repeat (first | exact (Kd.C_below HR108.out HB.out) | (with_reducible refine Kd.C_alloc ?_ _) | (with_reducible refine Kd.C_drewN ?_ _) | (with_reducible refine Kd.C_drew ?_))); (case side2 => exact HC108.out); rintro e w19 ⟨rfl, hb⟩; refine ⟨_, rfl, ?_⟩; have n0_ := Aside0.mk (Kd.R_below (by (with_reducible repeat (first | apply Kd.R_alloc | apply Kd.R_drewN | apply Kd.R_drew)); exact HO111.out) hb); have n1_ := Aside0.mk (below_step (by repeat (first | (with_reducible first | exact HB.out | apply below_alloc | apply pw_below_drewN | apply below_drew1) | exact HB.out)) hb); clear HO111; clear HB; have HO111 := n0_; have HB := n1_; clear n0_ n1_; (try clear hb); (try clear hb2); (try clear hk); (try clear hi)))
                      go_roundg kj7
                      case measure => have := HK1.out; have := HJ7.out; omega
                      case rel => exact ⟨(y109), (t112), (wrap64 (x6_1 + 1)), (by first | rfl | (simp; done) | (simp [*]; done)), (by first | rfl | (simp; done) | (simp [*]; done)), H', ⟨by have := HK1.out; have := HJ7.out; omega⟩, ⟨by (with_reducible repeat (first | apply Kd.R_alloc | apply Kd.R_drewN | apply Kd.R_drew)); exact HO111.out⟩, ⟨by repeat (first | (with_reducible first | exact HB.out | apply below_alloc | apply pw_below_drewN | apply below_drew1) | exact HB.out)⟩⟩
                    · rw [if_neg c15] at H
                      exact absurd H (by simp)
                  · rw [if_neg c14] at H
                    exact absurd H (by simp)
                · rw [if_neg c13] at H
                  have c13b0 : decide (100 < ((rd_L2 l0 x6_1).length : Int)) = false := decide_eq_false c13
                  have c13b1 : decide (100 < (rd_L2 l0 x6_1).length) = false := decide_eq_false (by omega)
                  clear c13
                  by_cases c20 : x4_1.length + (rd_L2 l0 x6_1).length < 140737488355328
                  · rw [if_pos c20] at H
                    have LMc20 := Aside0.mk c20
                    clear c20
                    obtain ⟨y113, hy113⟩ : ∃ y_ : List Int, y_ = (x4_1 ++ (rd_L2 l0 x6_1)) := ⟨_, rfl⟩
                    replace H : ((sum_More.f x5_1 (rd_L2 l0 x6_1)).bind fun t116 => (cambiumlaw02_SumParts.l0 kj7 l0 t102 y113 t116 (wrap64 (x6_1 + 1)))) = some r := by first | (rw [hy113]; with_reducible exact H) | (have H2_ := (Option.bind_some _ _).symm.trans H; rw [hy113]; with_reducible exact H2_) | (have H2_ := (Option.bind_some _ _).symm.trans H; with_reducible exact H2_) | with_reducible exact H | (rw [hy113]; exact H) | exact H
                    have Ny113 := Aside0.mk hy113
                    clear hy113
                    replace H := Option.bind_eq_some_iff.mp H
                    obtain ⟨t116, A210, H⟩ := H
                    replace H : (cambiumlaw02_SumParts.l0 kj7 l0 t102 y113 t116 (wrap64 (x6_1 + 1))) = some r := H
                    have A21 := Aside0.mk A210
                    clear A210
                    have H' := Aside0.mk H
                    clear H
                    have p107 : 0 ≤ (x6_1 : Int) := of_decide_eq_true (by first | (with_reducible assumption) | assumption)
                    have q107 : x6_1 < (l0.length : Int) := of_decide_eq_true (by first | (with_reducible assumption) | assumption)
                    obtain ⟨ad107, A107_0, c107_0, e107, hx107_0, hl107_0, hi107_0⟩ := at_L2 HR0.out x6_1 p107 q107
                    cases e107
                    replace hx107_0 := (HB.out.cell (World.block_lt_of_cell? w _ hx107_0)).trans hx107_0
                    have HR107_0 := Aside0.mk hi107_0
                    have HC107_0 := Aside0.mk hl107_0
                    clear hi107_0 hl107_0
                    replace p107 := eq_true p107
                    replace q107 := eq_true q107
                    go_wp2_with (first | ((with_reducible refine gate_builtin (b := .append) (xs := #[.tmp 30, .tmp 31]) rfl ?_); at_builtin; refine Kd.R_append_rows (Kd.int .u8) (w0 := w) w.heap.size rfl (.tmp 30) (.tmp 31) 22 5 (.int .u8 0) 1 rfl Try.underlying22 info5 rfl (by decide) (by omega) u4 x4_1 (rd_L2 l0 x6_1) _ _ _ (fun _ => True) (fun _ => False) rfl rfl ?aO ?aR (fun _ _ h => h) (fun _ h => h.elim) ?aF ?aB ?aS ?aL ?_; (case aR => repeat (first | exact (Kd.C_below HR107_0.out HB.out) | (with_reducible refine Kd.C_alloc ?_ _) | (with_reducible refine Kd.C_drewN ?_ _) | (with_reducible refine Kd.C_drew ?_))); (case aB => exact (by repeat (first | (with_reducible first | exact HB.out | apply below_alloc | apply pw_below_drewN | apply below_drew1) | exact HB.out))); (case aF => exact (fun _ _ => trivial)); (case aO => exact (by (with_reducible repeat (first | apply Kd.R_alloc | apply Kd.R_drewN | apply Kd.R_drew)); exact HO_4.out)); (case aS => exact (below_size (by repeat (first | (with_reducible first | exact HB.out | apply below_alloc | apply pw_below_drewN | apply below_drew1) | exact HB.out)))); (case aL => have := LMc20.out; omega); intro v114 w22 ho hb hg hat; rw [← Ny113.out] at ho; have n0_ := Aside0.mk (hb); have n1_ := Aside0.mk (ho); clear HB; clear HO_4; have HB := n0_; have HO115 := n1_; clear n0_ n1_; clear ho hb hg hat) | ((with_reducible refine gate_callee (f := 12) rfl ?_); refine goesL_ (some 35) rfl rfl Try.func12 (by kernel_rfl) rfl #[.int .u32 x5_1, .slice A107_0 (rd_L2 l0 x6_1).length c107_0] rfl (by (try simp only [List.map_toArray, List.map_cons, List.map_nil]); first | done | rfl | (simp only [List.length_drop, List.length_take]; rfl)) ?_; (with_reducible refine (sum_More.calls x5_1 _ _ (rd_L2 l0 x6_1) t116 _ ?side1 ?side2 A21.out).mono ?_); (case side1 => repeat (first | exact (Kd.C_below HR107_0.out HB.out) | (with_reducible refine Kd.C_alloc ?_ _) | (with_reducible refine Kd.C_drewN ?_ _) | (with_reducible refine Kd.C_drew ?_))); (case side2 => exact HC107_0.out); rintro e w23 ⟨rfl, hb⟩; refine ⟨_, rfl, ?_⟩; have n0_ := Aside0.mk (Kd.R_below (by (with_reducible repeat (first | apply Kd.R_alloc | apply Kd.R_drewN | apply Kd.R_drew)); exact HO115.out) hb); have n1_ := Aside0.mk (below_step (by repeat (first | (with_reducible first | exact HB.out | apply below_alloc | apply pw_below_drewN | apply below_drew1) | exact HB.out)) hb); clear HO115; clear HB; have HO115 := n0_; have HB := n1_; clear n0_ n1_; (try clear hb); (try clear hb2); (try clear hk); (try clear hi)))
                    go_roundg kj7
                    case measure => have := HK1.out; have := HJ7.out; omega
                    case rel => exact ⟨(y113), (t116), (wrap64 (x6_1 + 1)), (by first | rfl | (simp; done) | (simp [*]; done)), (by first | rfl | (simp; done) | (simp [*]; done)), H', ⟨by have := HK1.out; have := HJ7.out; omega⟩, ⟨by (with_reducible repeat (first | apply Kd.R_alloc | apply Kd.R_drewN | apply Kd.R_drew)); exact HO115.out⟩, ⟨by repeat (first | (with_reducible first | exact HB.out | apply below_alloc | apply pw_below_drewN | apply below_drew1) | exact HB.out)⟩⟩
                  · rw [if_neg c20] at H
                    exact absurd H (by simp)
              · rw [if_neg c12] at H
                exact absurd H (by simp)
            · rw [if_neg c11] at H
              exact absurd H (by simp)
          · replace c10 := Bool.eq_false_iff.mpr c10
            subst c10
            have H1 : (if t102 = true then ((sum_Sum.f x4_1).bind fun t117 => (some (x5_1 == t117))) else (some false)) = some r := by rw [if_neg (show ¬ (false = true) by decide)] at H; exact H
            clear H
            have H := H1
            clear H1
            by_cases c24 : t102 = true
            · subst c24
              have H1 : ((sum_Sum.f x4_1).bind fun t117 => (some (x5_1 == t117))) = some r := by rw [if_pos rfl] at H; exact H
              clear H
              have H := H1
              clear H1
              replace H := Option.bind_eq_some_iff.mp H
              obtain ⟨t117, A250, H⟩ := H
              replace H : (some (x5_1 == t117)) = some r := H
              have A25 := Aside0.mk A250
              clear A250
              obtain rfl := Option.some.inj H
              obtain ⟨Ao26, co26, eo26⟩ := Kd.R_slice HO_4.out
              subst eo26
              go_wp2_with (first | (go_at_call 10; (with_reducible refine (sum_Sum.calls _ _ x4_1 t117 _ ?side1 ?side2 A25.out).mono ?_); (case side1 => repeat (first | exact (Kd.R_reads' HO_4.out).2.2 | (with_reducible refine Kd.C_alloc ?_ _) | (with_reducible refine Kd.C_drewN ?_ _) | (with_reducible refine Kd.C_drew ?_))); (case side2 => exact (Kd.R_reads' HO_4.out).2.1); rintro e w27 ⟨rfl, hb⟩; have n0_ := Aside0.mk (Kd.R_below (by (with_reducible repeat (first | apply Kd.R_alloc | apply Kd.R_drewN | apply Kd.R_drew)); exact HO_4.out) hb); have n1_ := Aside0.mk (below_step (by repeat (first | (with_reducible first | exact HB.out | apply below_alloc | apply pw_below_drewN | apply below_drew1) | exact HB.out)) hb); clear HO_4; clear HB; have HO_4 := n0_; have HB := n1_; clear n0_ n1_; (try clear hb); (try clear hb2); (try clear hk); (try clear hi)))
              go_ret
              exact ⟨by first | rfl | (simp [errW_none, errW_some] <;> rfl) | (simp [*, errW_none, errW_some] <;> rfl), by repeat (first | (with_reducible first | exact HB.out | apply below_alloc | apply pw_below_drewN | apply below_drew1) | exact HB.out)⟩
            · replace c24 := Bool.eq_false_iff.mpr c24
              subst c24
              have H1 : (some false) = some r := by rw [if_neg (show ¬ (false = true) by decide)] at H; exact H
              clear H
              have H := H1
              clear H1
              obtain rfl := Option.some.inj H
              go_wp2
              go_ret
              exact ⟨by first | rfl | (simp [errW_none, errW_some] <;> rfl) | (simp [*, errW_none, errW_some] <;> rfl), by repeat (first | (with_reducible first | exact HB.out | apply below_alloc | apply pw_below_drewN | apply below_drew1) | exact HB.out)⟩

/-- THE ONE PURE STATEMENT of cambiumlaw02_SumParts: yours. -/
def cambiumlaw02_SumParts.Pure : Prop := ∀ (l0 : List (List Int)), (l0.length ≤ maxLen ∧ ∀ y0_ ∈ l0, (y0_.length ≤ maxLen ∧ ∀ y1_ ∈ y0_, (Lit.int .u8 y1_).wf = true)) → ∃ k, cambiumlaw02_SumParts.f k l0 = some true
theorem cambiumlaw02_SumParts.walk (P : cambiumlaw02_SumParts.Pure) (A0 : Option Addr) (c0 : Nat) (l0 : List (List Int)) (w : World) (hr0 : Kd.C (Kd.slice 5 (Kd.int .u8)) w A0 l0.length l0) (hc0 : l0.length ≤ c0) (w0 : (l0.length ≤ maxLen ∧ ∀ y0_ ∈ l0, (y0_.length ≤ maxLen ∧ ∀ y1_ ∈ y0_, (Lit.int .u8 y1_).wf = true))) :
    Calls Try.prog 5 #[.slice A0 l0.length c0] w fun e w' => e = .returned (.bool true) ∧ Below w.heap.size w w' := by
  obtain ⟨k, h⟩ := P l0 w0
  refine (cambiumlaw02_SumParts.calls k A0 c0 l0 true w hr0 hc0 h).mono ?_
  rintro e w' ⟨rfl, hd⟩
  exact ⟨rfl, hd⟩

end Go.Proofs.Ytchhdnffhkifkaa.P
