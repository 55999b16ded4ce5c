import Derived.Test.YtgklipfeheohkaaDoorPx0
import Derived.Test.YtgklipfeheohkaaDoorPx1
namespace Go.Proofs.YtgklipfeheohkaaDoor.P
open Go.RowKit Go.Proofs.YtgklipfeheohkaaDoorW.PrintWords Go.Proofs.YtgklipfeheohkaaDoorW.PrintLast Go.Proofs.YtgklipfeheohkaaDoorW.PrintMore
attribute [local go_sem] max2_int min2_int max_two min_two max_three min_three max_four min_four   -- for this text's walks alone
set_option linter.unusedVariables false
set_option linter.unusedSimpArgs false
theorem q4_ {P : Prop} (h : P := by repeat (first | (with_reducible first | exact HB.out | apply below_alloc | apply pw_below_drewN | apply below_drew1 | refine below_set ?_ GE140.out) | exact HB.out)) : P := h
theorem q6_ {P : Prop} (h : P := by (with_reducible repeat (first | refine blk_drewN ?_ _ | refine blk_drew ?_ | refine blk_alloc ?_ _)); refine blk_put (cs := #[.int .i64 ((rd_T37 l0 x20_2).f0), .string ((rd_T37 l0 x20_2).f1), .string ((rd_T37 l0 x20_2).f2), .int .i64 ((rd_T37 l0 x20_2).f3), .slice none 0 0]) ?_ 4 _ rfl; (with_reducible repeat (first | refine blk_drewN ?_ _ | refine blk_drew ?_ | refine blk_alloc ?_ _)); refine blk_put (cs := #[.int .i64 ((rd_T37 l0 x20_2).f0), .string ((rd_T37 l0 x20_2).f1), .string ((rd_T37 l0 x20_2).f2), .int .i64 0, .slice none 0 0]) ?_ 3 _ rfl; (with_reducible repeat (first | refine blk_drewN ?_ _ | refine blk_drew ?_ | refine blk_alloc ?_ _)); refine blk_put (cs := #[.int .i64 ((rd_T37 l0 x20_2).f0), .string ((rd_T37 l0 x20_2).f1), .string (⟨#[]⟩ : ByteArray), .int .i64 0, .slice none 0 0]) ?_ 2 _ rfl; (with_reducible repeat (first | refine blk_drewN ?_ _ | refine blk_drew ?_ | refine blk_alloc ?_ _)); refine blk_put (cs := #[.int .i64 ((rd_T37 l0 x20_2).f0), .string (⟨#[]⟩ : ByteArray), .string (⟨#[]⟩ : ByteArray), .int .i64 0, .slice none 0 0]) ?_ 1 _ rfl; (with_reducible repeat (first | refine blk_drewN ?_ _ | refine blk_drew ?_ | refine blk_alloc ?_ _)); refine blk_put (cs := #[.int .i64 0, .string (⟨#[]⟩ : ByteArray), .string (⟨#[]⟩ : ByteArray), .int .i64 0, .slice none 0 0]) ?_ 0 _ rfl; (with_reducible repeat (first | refine blk_drewN ?_ _ | refine blk_drew ?_ | refine blk_alloc ?_ _)); exact BK140.out) : P := h
theorem q22_ {P : Prop} (h : P := by (with_reducible repeat (first | apply Kd.R_alloc | apply Kd.R_drewN | apply Kd.R_drew)); exact (Kd.R_mono (Kd.R_far (p := ⟨gb140, 4, none⟩) (Kd.R_far (p := ⟨gb140, 3, none⟩) (Kd.R_far (p := ⟨gb140, 2, none⟩) (Kd.R_far (p := ⟨gb140, 1, none⟩) (Kd.R_far (p := ⟨gb140, 0, none⟩) (Kd.R_types HO_6.out BK140.out (by decide)) (fun _ hk => hk.2) (.int .i64 ((rd_T37 l0 x20_2).f0))) (fun _ hk => hk.2) (.string ((rd_T37 l0 x20_2).f1))) (fun _ hk => hk.2) (.string ((rd_T37 l0 x20_2).f2))) (fun _ hk => hk.2) (.int .i64 ((rd_T37 l0 x20_2).f3))) (fun _ hk => hk.2) (.slice A139_4 ((rd_T37 l0 x20_2).f4).length c139_4)) (fun _ h_ => h_.1))) : P := h
theorem q25_ {P : Prop} (h : P := by (with_reducible repeat (first | apply Kd.R_alloc | apply Kd.R_drewN | apply Kd.R_drew)); exact HO144.out) : P := h
theorem q29_ {P : Prop} (h : P := by (with_reducible repeat (first | refine blk_drewN ?_ _ | refine blk_drew ?_ | refine blk_alloc ?_ _)); exact BK140.out) : P := h
theorem q42_ {P : Prop} (h : P := by (with_reducible repeat (first | apply Kd.R_alloc | apply Kd.R_drewN | apply Kd.R_drew)); exact HO148.out) : P := h
theorem q69_ {P : Prop} (h : P := by (with_reducible repeat (first | apply Kd.R_alloc | apply Kd.R_drewN | apply Kd.R_drew)); exact HO132.out) : P := h
def num_put.f (l0 : List Int) (l1 : List Int) (a2 : Int) (a3 : Int) : Option (List Int × Int) := if (l1.length : Int) > a3 then (some (([] : List Int), 7)) else ((num_Put.f l0 (l1.length : Int) a2).bind fun t108 => ((num_join.f t108 l1).bind fun t111 => (some (t111, 0))))
set_option maxHeartbeats 8000000 in
set_option maxRecDepth 100000 in
theorem num_put.calls (A0 : Option Addr) (c0 : Nat) (l0 : List Int) (A1 : Option Addr) (c1 : Nat) (l1 : List Int) (a2 : Int) (a3 : Int) (r1 : List Int) (r2 : Int) (w : World) (hr0 : Kd.C (Kd.int .u8) w A0 l0.length l0) (hc0 : l0.length ≤ c0) (hr1 : Kd.C (Kd.int .u8) w A1 l1.length l1) (hc1 : l1.length ≤ c1) (h : num_put.f l0 l1 a2 a3 = some (r1, r2)) :
  Calls Tryd.prog 46 #[.slice A0 l0.length c0, .slice A1 l1.length c1, .int .i64 a2, .int .i64 a3] w fun e w' => ∃ v0_ : Value, e = .returned (.tuple #[v0_, .int .i64 r2]) ∧ Kd.R (Kd.int .u8) 5 w' w.heap.size (fun _ => True) v0_ r1 ∧ Below w.heap.size w w' := by
 have HR0 := Aside0.mk hr0
 have HC0 := Aside0.mk hc0
 clear hr0 hc0
 have HR1 := Aside0.mk hr1
 have HC1 := Aside0.mk hc1
 clear hr1 hc1
 have HB := Aside0.mk (Below.refl w.heap.size w)
 have H : (if (l1.length : Int) > a3 then (some (([] : List Int), 7)) else ((num_Put.f l0 (l1.length : Int) a2).bind fun t108 => ((num_join.f t108 l1).bind fun t111 => (some (t111, 0))))) = some (r1, r2) := h
 clear h
 by_cases c5 : (l1.length : Int) > a3
 ·rw [if_pos c5] at H
  have c5b0 : decide (a3 < (l1.length : Int)) = true := decide_eq_true c5
  clear c5
  simp only [Option.some.injEq, Prod.mk.injEq] at H
  obtain ⟨rfl, rfl⟩ := H
  go_enter Tryd.func46, Tryd.ntmps46
  go_wp2
  go_ret2
  exact ⟨_, by first | rfl | (simp [errW_none, errW_some] <;> rfl) | (simp [*, errW_none, errW_some] <;> rfl), by first | exact Kd.R_nil _ _ _ _ _ | exact Kd.N_nil _ _ _ _ _ | exact Kd.V_nil _ _ _ _ _ | exact Kd.Q_nil _ _ _ _ _ | exact Kd.S_nil _ _ _ _ _, by repeat (first | (with_reducible first | exact HB.out | apply below_alloc | apply pw_below_drewN | apply below_drew1) | exact HB.out)⟩
 ·rw [if_neg c5] at H
  have c5b0 : decide (a3 < (l1.length : Int)) = false := decide_eq_false c5
  clear c5
  replace H := Option.bind_eq_some_iff.mp H
  obtain ⟨t108, A60, H⟩ := H
  replace H : ((num_join.f t108 l1).bind fun t111 => (some (t111, 0))) = some (r1, r2) := H
  have A6 := Aside0.mk A60
  clear A60
  replace H := Option.bind_eq_some_iff.mp H
  obtain ⟨t111, A70, H⟩ := H
  replace H : (some (t111, 0)) = some (r1, r2) := H
  have A7 := Aside0.mk A70
  clear A70
  simp only [Option.some.injEq, Prod.mk.injEq] at H
  obtain ⟨rfl, rfl⟩ := H
  go_enter Tryd.func46, Tryd.ntmps46
  go_wp2_with (first | ((with_reducible refine gate_callee (f := 30) rfl ?_); refine goesL_ (some 18) rfl rfl Tryd.func30 q18_ rfl #[.slice A0 l0.length c0, .int .i64 (l1.length : Int), .int .i64 a2] rfl q1_ ?_; (with_reducible refine (num_Put.calls _ _ l0 (l1.length : Int) a2 t108 _ ?side1 ?side2 A6.out).mono ?_); (case side1 => repeat (first | exact HR0.out | (with_reducible refine Kd.C_alloc ?_ _) | (with_reducible refine Kd.C_drewN ?_ _) | (with_reducible refine Kd.C_drew ?_))); (case side2 => exact HC0.out); rintro e w8 ⟨v109, rfl, ho0, hb⟩; refine ⟨_, rfl, ?_⟩; have n0_ := Aside0.mk (Kd.R_lower ho0 (below_size q0_)); have n1_ := Aside0.mk (below_step q0_ hb); clear HB; have HO110 := n0_; have HB := n1_; clear n0_ n1_; (try clear hb); (try clear hb2); (try clear hk); (try clear hi); (try clear ho0); obtain ⟨Ao9, co9, eo9⟩ := Kd.R_slice HO110.out; subst eo9) | ((with_reducible refine gate_callee (f := 47) rfl ?_); refine goesL_ (some 20) rfl rfl Tryd.func47 q18_ rfl #[.slice Ao9 t108.length co9, .slice A1 l1.length c1] rfl q1_ ?_; (with_reducible refine (num_join.calls _ _ t108 _ _ l1 t111 _ ?side1 ?side2 ?side3 ?side4 A7.out).mono ?_); (case side1 => repeat (first | exact (Kd.R_reads' HO110.out).2.2 | (with_reducible refine Kd.C_alloc ?_ _) | (with_reducible refine Kd.C_drewN ?_ _) | (with_reducible refine Kd.C_drew ?_))); (case side2 => exact (Kd.R_reads' HO110.out).2.1); (case side3 => repeat (first | exact (Kd.C_below HR1.out HB.out) | (with_reducible refine Kd.C_alloc ?_ _) | (with_reducible refine Kd.C_drewN ?_ _) | (with_reducible refine Kd.C_drew ?_))); (case side4 => exact HC1.out); rintro e w10 ⟨v112, rfl, ho0, hb⟩; refine ⟨_, rfl, ?_⟩; have n0_ := Aside0.mk (Kd.R_elder' (by (with_reducible repeat (first | apply Kd.R_alloc | apply Kd.R_drewN | apply Kd.R_drew)); exact HO110.out) (Kd.R_base ho0) hb); have n1_ := Aside0.mk (Kd.R_lower (Kd.R_new' ho0 (Kd.R_lt (by (with_reducible repeat (first | apply Kd.R_alloc | apply Kd.R_drewN | apply Kd.R_drew)); exact HO110.out))) (below_size q0_)); have n2_ := Aside0.mk (below_step q0_ hb); clear HO110; clear HB; have HO110 := n0_; have HO113 := n1_; have HB := n2_; clear n0_ n1_ n2_; (try clear hb); (try clear hb2); (try clear hk); (try clear hi); (try clear ho0)))
  go_ret2
  exact ⟨_, by first | rfl | (simp [errW_none, errW_some] <;> rfl) | (simp [*, errW_none, errW_some] <;> rfl), by (with_reducible repeat (first | apply Kd.R_alloc | apply Kd.R_drewN | apply Kd.R_drew)); exact Kd.R_mono HO113.out (fun _ hk => trivial), by repeat (first | (with_reducible first | exact HB.out | apply below_alloc | apply pw_below_drewN | apply below_drew1) | exact HB.out)⟩
def num_PutText.f (l0 : List Int) (a1 : ByteArray) : Option (List Int × Int) := if a1.size ≤ 9223372036854775807 then num_put.f l0 (bytesOf a1) 1 255 else none
theorem num_PutText.calls (A0 : Option Addr) (c0 : Nat) (l0 : List Int) (a1 : ByteArray) (r1 : List Int) (r2 : Int) (w : World) (hr0 : Kd.C (Kd.int .u8) w A0 l0.length l0) (hc0 : l0.length ≤ c0) (h : num_PutText.f l0 a1 = some (r1, r2)) :
  Calls Tryd.prog 29 #[.slice A0 l0.length c0, .string a1] w fun e w' => ∃ v0_ : Value, e = .returned (.tuple #[v0_, .int .i64 r2]) ∧ Kd.R (Kd.int .u8) 5 w' w.heap.size (fun _ => True) v0_ r1 ∧ Below w.heap.size w w' := by
 unfold num_PutText.f at h
 by_cases hs : a1.size ≤ 9223372036854775807
 ·rw [if_pos hs] at h
  have HC0 := Aside0.mk hc0
  have HB := Aside0.mk (bytes_below (Below.refl w.heap.size w) (Nat.le_refl _) 5 a1)
  have HR0 := Aside0.mk (Kd.C_below hr0 HB.out)
  have HR1 := Aside0.mk (Kd.C_of_reads (d := (0 : Int)) (h1 := fun _ => rfl) (bytes_reads w 5 a1 hs))
  have HG := Aside0.mk (grownCap_ge w a1.size 0 5)
  have kb0 := print_bytes (P := Tryd.prog) 9 35 5 Tryd.underlying9 Tryd.underlying35 Tryd.underlying5 a1 w
  have kb : (convert 9 35 (.string a1)).run Tryd.prog w = .ok (.slice (some ⟨w.heap.size, 0, none⟩) (bytesOf a1).length (grownCap w a1.size 0 5)) (Lib.bytesWorld w 5 a1) := by rw [bytesOf_length]; exact kb0
  have HR2 := Aside0.mk (show Kd.C (Kd.int .u8) (Lib.bytesWorld w 5 a1) (some ⟨w.heap.size, 0, none⟩) (bytesOf a1).length (bytesOf a1) from by rw [bytesOf_length]; exact HR1.out)
  have HG2 := Aside0.mk (show (bytesOf a1).length ≤ grownCap w a1.size 0 5 from by rw [bytesOf_length]; exact HG.out)
  have H := Aside0.mk h
  clear h hs hr0 hc0 kb0
  go_enter Tryd.func29, Tryd.ntmps29
  go_wp2_with (go_at_call 46; refine (num_put.calls _ _ l0 _ _ (bytesOf a1) 1 255 r1 r2 _ HR0.out HC0.out HR2.out HG2.out H.out).mono ?_; rintro e w1 ⟨v1, rfl, ho, hb⟩; have HO := Aside0.mk ho; have HB1 := Aside0.mk hb; clear ho hb)
  go_ret2
  exact ⟨_, rfl, Kd.R_lower HO.out HB.out.size, below_step HB.out HB1.out⟩
 ·rw [if_neg hs] at h
  cases h
def num_PutBytes.f (l0 : List Int) (l1 : List Int) : Option (List Int × Int) := (num_put.f l0 l1 2 65535).bind fun bt114 => (some (bt114.1, bt114.2))
set_option maxHeartbeats 8000000 in
set_option maxRecDepth 100000 in
theorem num_PutBytes.calls (A0 : Option Addr) (c0 : Nat) (l0 : List Int) (A1 : Option Addr) (c1 : Nat) (l1 : List Int) (r1 : List Int) (r2 : Int) (w : World) (hr0 : Kd.C (Kd.int .u8) w A0 l0.length l0) (hc0 : l0.length ≤ c0) (hr1 : Kd.C (Kd.int .u8) w A1 l1.length l1) (hc1 : l1.length ≤ c1) (h : num_PutBytes.f l0 l1 = some (r1, r2)) :
  Calls Tryd.prog 31 #[.slice A0 l0.length c0, .slice A1 l1.length c1] w fun e w' => ∃ v0_ : Value, e = .returned (.tuple #[v0_, .int .i64 r2]) ∧ Kd.R (Kd.int .u8) 5 w' w.heap.size (fun _ => True) v0_ r1 ∧ Below w.heap.size w w' := by
 have HR0 := Aside0.mk hr0
 have HC0 := Aside0.mk hc0
 clear hr0 hc0
 have HR1 := Aside0.mk hr1
 have HC1 := Aside0.mk hc1
 clear hr1 hc1
 have HB := Aside0.mk (Below.refl w.heap.size w)
 have H : ((num_put.f l0 l1 2 65535).bind fun bt114 => (some (bt114.1, bt114.2))) = some (r1, r2) := h
 clear h
 replace H := Option.bind_eq_some_iff.mp H
 obtain ⟨⟨t114, t115⟩, A30, H⟩ := H
 replace H : (some (t114, t115)) = some (r1, r2) := H
 have A3 := Aside0.mk A30
 clear A30
 simp only [Option.some.injEq, Prod.mk.injEq] at H
 obtain ⟨rfl, rfl⟩ := H
 go_enter Tryd.func31, Tryd.ntmps31
 go_wp2_with (first | ((with_reducible refine gate_callee (f := 46) rfl ?_); refine goesL_ (some 8) rfl rfl Tryd.func46 q18_ rfl #[.slice A0 l0.length c0, .slice A1 l1.length c1, .int .i64 2, .int .i64 65535] rfl q1_ ?_; (with_reducible refine (num_put.calls _ _ l0 _ _ l1 2 65535 t114 t115 _ ?side1 ?side2 ?side3 ?side4 A3.out).mono ?_); (case side1 => repeat (first | exact HR0.out | (with_reducible refine Kd.C_alloc ?_ _) | (with_reducible refine Kd.C_drewN ?_ _) | (with_reducible refine Kd.C_drew ?_))); (case side2 => exact HC0.out); (case side3 => repeat (first | exact HR1.out | (with_reducible refine Kd.C_alloc ?_ _) | (with_reducible refine Kd.C_drewN ?_ _) | (with_reducible refine Kd.C_drew ?_))); (case side4 => exact HC1.out); rintro e w4 ⟨v116, rfl, ho0, hb⟩; refine ⟨_, rfl, ?_⟩; have n0_ := Aside0.mk (Kd.R_lower ho0 (below_size q0_)); have n1_ := Aside0.mk (below_step q0_ hb); clear HB; have HO117 := n0_; have HB := n1_; clear n0_ n1_; (try clear hb); (try clear hb2); (try clear hk); (try clear hi); (try clear ho0)))
 go_ret2
 exact ⟨_, by first | rfl | (simp [errW_none, errW_some] <;> rfl) | (simp [*, errW_none, errW_some] <;> rfl), by (with_reducible repeat (first | apply Kd.R_alloc | apply Kd.R_drewN | apply Kd.R_drew)); exact HO117.out, by repeat (first | (with_reducible first | exact HB.out | apply below_alloc | apply pw_below_drewN | apply below_drew1) | exact HB.out)⟩
def tabRow (k : Nat) : Array Value := ((List.range 16).map fun i => if i < k then Value.int .u32 (Crc.tb i) else .int .u32 0).toArray
theorem tabRow_get (k : Nat) (h : k < 16) : (tabRow k)[k]? = some (.int .u32 0) := by simp [tabRow, h]
theorem tabRow_set (k : Nat) (h : k < 16) : (tabRow k).setIfInBounds k (.int .u32 (Crc.tb k)) = tabRow (k + 1) := by
 apply Array.ext
 ·simp [tabRow]
 ·intro i h1 h2
  simp [tabRow, List.getElem_set]
  by_cases e : k = i
  ·subst e; simp
  ·have : i < k + 1 ↔ i < k := by omega
   simp [e, this]
theorem tabRow_lit : tabRow 16 = #[.int .u32 (Crc.tb 0), .int .u32 (Crc.tb 1), .int .u32 (Crc.tb 2), .int .u32 (Crc.tb 3), .int .u32 (Crc.tb 4), .int .u32 (Crc.tb 5), .int .u32 (Crc.tb 6), .int .u32 (Crc.tb 7), .int .u32 (Crc.tb 8), .int .u32 (Crc.tb 9), .int .u32 (Crc.tb 10), .int .u32 (Crc.tb 11), .int .u32 (Crc.tb 12), .int .u32 (Crc.tb 13), .int .u32 (Crc.tb 14), .int .u32 (Crc.tb 15)] := rfl
theorem tabRow_one : ∀ v ∈ (tabRow 16).toList, v.oneCell' = true := by simp [tabRow_lit, Value.oneCell']
set_option maxHeartbeats 400000 in
theorem nib (w : World) : Calls Tryd.prog 70 #[] w fun e w' => e = .returned (.agg (tabRow 16)) ∧ Below w.heap.size w w' := by
 go_enter Tryd.func70, Tryd.ntmps70
 go_wp2
 go_loopw [4] (fun i wr => ∃ k : Nat, k ≤ 16 ∧ i = .int .i64 k ∧ wr = (w.alloc (.cells (tabRow 0) 96)).alloc (.cells (tabRow k) 96)) (fun i _ => 16 - (intOf i).toNat)
 case atStart => exact ⟨0, by omega, rfl, rfl⟩
 case round =>
  obtain ⟨k, hk, rfl, rfl⟩ := hrel
  by_cases hlt : k < 16
  ·have hcell := tabRow_get k hlt
   go_wp2
   go_loop [3, 9] (fun r i => ∃ j : Nat, j ≤ 4 ∧ i = .int .i64 j ∧ r = .int .u32 (Crc.stpN j k)) (fun _ i => 4 - (intOf i).toNat)
   case atStart => exact ⟨0, by omega, rfl, by simp [Crc.stpN]⟩
   case round =>
    obtain ⟨j, hj, rfl, rfl⟩ := hrel
    by_cases hj4 : j < 4
    ·go_wp2
     ·rename_i h
      go_round
      case rel => exact ⟨j + 1, by omega, by go_num, by simp only [Crc.stpN, Crc.stp]; rw [if_pos (by simpa using h)]⟩
      case measure => simp [intOf]; omega
     ·rename_i h
      go_round
      case rel => exact ⟨j + 1, by omega, by go_num, by simp only [Crc.stpN, Crc.stp]; rw [if_neg (by simpa using h)]⟩
      case measure => simp [intOf]; omega
    ·obtain rfl : j = 4 := by omega
     go_wp2
     go_roundw
     case rel => exact ⟨k + 1, by omega, by go_num, by rw [← tabRow_set k hlt]; rfl⟩
     case measure => simp [intOf]; omega
  ·obtain rfl : k = 16 := by omega
   go_wp2_with (first | (refine wpList_load_row rfl 96 _ rfl (w.heap.size + 1) rfl 96 (tabRow 16) (0, 0) _ (heap_alloc2_new w _ _) Tryd.underlying96 rfl q18_ ?_) | (refine Own.wpList_store_row rfl 96 _ _ rfl w.heap.size rfl (tabRow 16) rfl 96 (tabRow 0) (heap_alloc2_old w _ _) q18_ rfl tabRow_one ?_))
   rw [Own.setRow_alloc_past _ _ _ _ (by simp), Own.setRow_alloc_at _ _ _ _ _ rfl]
   go_wp2
   exact bodyPost_ret (v := .agg (tabRow 16)) (results_cell_row rfl _ _ w.heap.size 96 (tabRow 16) (0, 0) _ rfl (heap_alloc2_old w _ _) Tryd.underlying96 rfl q18_) rfl ⟨rfl, ((Below.refl _ _).alloc (Nat.le_refl _) _).alloc (by simp) _⟩
theorem tab_at (x : Int) (h0 : 0 ≤ x) (h1 : x < 16) : (tabRow 16)[x.toNat]? = some (.int .u32 (Crc.tb x.toNat)) := by
 have : x.toNat < 16 := by omega
 simp [tabRow, this]
def sum_More.f (a0 : Int) (l1 : List Int) : Option Int := some (Crc.moreI a0 l1)
theorem fold_take (l : List Int) (a : Int) (k : Nat) (h : k < l.length) : (l.take (k + 1)).foldl Crc.moreStep a = Crc.moreStep ((l.take k).foldl Crc.moreStep a) (rd l k) := by
 rw [List.take_succ_eq_append_getElem h, List.foldl_append]
 simp [rd, List.getD_eq_getElem?_getD, h]
set_option maxHeartbeats 400000 in
theorem sum_More.calls (a0 : Int) (A1 : Option Addr) (c1 : Nat) (l1 : List Int) (r : Int) (w : World) (hr1 : Kd.C (Kd.int .u8) w A1 l1.length l1) (hc1 : l1.length ≤ c1) (h : sum_More.f a0 l1 = some r) :
  Calls Tryd.prog 61 #[.int .u32 a0, .slice A1 l1.length c1] w fun e w' => e = .returned (.int .u32 r) ∧ Below w.heap.size w w' := by
 have HR1 := Aside0.mk hr1
 have HC1 := Aside0.mk hc1
 have HL := Aside0.mk hr1.2.1
 clear hr1 hc1
 have H' := Aside0.mk h
 clear h
 go_enter Tryd.func61, Tryd.ntmps61
 go_wp2_with (first | (go_at_call 70; refine (nib _).mono ?_; rintro e w1 ⟨rfl, hb⟩) | (refine Own.wpList_store_row rfl 96 _ _ rfl _ rfl (tabRow 16) rfl 96 _ (heap_alloc_new _ _) q18_ rfl tabRow_one ?_; rw [Own.setRow_alloc_at _ _ _ _ _ rfl]))
 have HB := Aside0.mk (hb.alloc hb.size (.cells (tabRow 16) 96))
 have HR2 := Aside0.mk (Kd.C_below HR1.out HB.out)
 clear hb HR1
 go_loop [6, 14] (fun v i => ∃ k : Nat, k ≤ l1.length ∧ i = .int .i64 k ∧ v = .int .u32 ((l1.take k).foldl Crc.moreStep (Go.bits .xor .u32 4294967295 a0))) (fun _ i => l1.length - (intOf i).toNat)
 case atStart => exact ⟨0, by omega, rfl, rfl⟩
 case round =>
  obtain ⟨k, hk, rfl, rfl⟩ := hrel
  have hm := HL.out
  by_cases hlt : k < l1.length
  ·have HF := Aside0.mk (fold_take l1 (Go.bits .xor .u32 4294967295 a0) k hlt)
   generalize hx : (l1.take k).foldl Crc.moreStep (Go.bits .xor .u32 4294967295 a0) = x at HF
   clear hx
   obtain ⟨ad, rfl, hcell⟩ := Kd.at_int HR2.out (k : Int) (by omega) (by omega)
   rw [Int.toNat_natCast] at hcell
   have e1 := Crc.and15 (Go.bits .xor .u32 x (rd l1 k % 4294967296))
   have t1 := tab_at _ e1.1 e1.2
   have e2 := Crc.and15 (Go.bits .xor .u32 (Go.bits .xor .u32 x (rd l1 k % 4294967296) / 16) (Crc.tb (Go.bits .and .u32 (Go.bits .xor .u32 x (rd l1 k % 4294967296)) 15).toNat))
   have t2 := tab_at _ e2.1 e2.2
   go_wp2
   go_round
   case rel => exact ⟨k + 1, by omega, by go_num, by rw [HF.out]; rfl⟩
   case measure => simp [intOf]; omega
  ·obtain rfl : k = l1.length := by omega
   go_wp2
   go_ret
   have := H'.out

   exact ⟨by simp only [sum_More.f, Crc.moreI] at this; injection this with this; rw [← this]; rfl, HB.out⟩
def sum_Sum.f (l0 : List Int) : Option (Int) := (sum_More.f 0 l0).bind fun t118 => (some t118)
set_option maxHeartbeats 8000000 in
set_option maxRecDepth 100000 in
theorem sum_Sum.calls (A0 : Option Addr) (c0 : Nat) (l0 : List Int) (r : Int) (w : World) (hr0 : Kd.C (Kd.int .u8) w A0 l0.length l0) (hc0 : l0.length ≤ c0) (h : sum_Sum.f l0 = some r) :
  Calls Tryd.prog 48 #[.slice A0 l0.length c0] w fun e w' => e = .returned (.int .u32 r) ∧ Below w.heap.size w w' := by
 have HR0 := Aside0.mk hr0
 have HC0 := Aside0.mk hc0
 clear hr0 hc0
 have HB := Aside0.mk (Below.refl w.heap.size w)
 have H : ((sum_More.f 0 l0).bind fun t118 => (some t118)) = some r := h
 clear h
 replace H := Option.bind_eq_some_iff.mp H
 obtain ⟨t118, A20, H⟩ := H
 replace H : (some t118) = some r := H
 have A2 := Aside0.mk A20
 clear A20
 obtain rfl := Option.some.inj H
 go_enter Tryd.func48, Tryd.ntmps48
 go_wp2_with (first | ((with_reducible refine gate_callee (f := 61) rfl ?_); refine goesL_ (some 4) rfl rfl Tryd.func61 q18_ rfl #[.int .u32 0, .slice A0 l0.length c0] rfl q1_ ?_; (with_reducible refine (sum_More.calls 0 _ _ l0 t118 _ ?side1 ?side2 A2.out).mono ?_); (case side1 => repeat (first | exact HR0.out | (with_reducible refine Kd.C_alloc ?_ _) | (with_reducible refine Kd.C_drewN ?_ _) | (with_reducible refine Kd.C_drew ?_))); (case side2 => exact HC0.out); rintro e w3 ⟨rfl, hb⟩; refine ⟨_, rfl, ?_⟩; have n0_ := Aside0.mk (below_step q0_ hb); clear HB; have HB := n0_; clear n0_; (try clear hb); (try clear hb2); (try clear hk); (try clear hi)))
 go_ret
 exact ⟨q9_, by repeat (first | (with_reducible first | exact HB.out | apply below_alloc | apply pw_below_drewN | apply below_drew1) | exact HB.out)⟩
def stream_tail.f (l0 : List Int) : Option (List Int) := (sum_Sum.f l0).bind fun t119 => (some (([(t119) % 256, (t119 / 256) % 256, (t119 / 65536) % 256, (t119 / 16777216) % 256] : List Int)))
set_option maxHeartbeats 8000000 in
set_option maxRecDepth 100000 in
theorem stream_tail.callsR (A0 : Option Addr) (c0 : Nat) (l0 : List Int) (r : List Int) (w : World) (hr0 : Kd.C (Kd.int .u8) w A0 l0.length l0) (hc0 : l0.length ≤ c0) (h : stream_tail.f l0 = some r) :
  Calls Tryd.prog 32 #[.slice A0 l0.length c0] w fun e w' => ∃ v0_ : Value, e = .returned (v0_) ∧ Kd.R (Kd.int .u8) 5 w' w.heap.size (fun _ => True) v0_ r ∧ Below w.heap.size w w' := by
 have HR0 := Aside0.mk hr0
 have HC0 := Aside0.mk hc0
 clear hr0 hc0
 have HB := Aside0.mk (Below.refl w.heap.size w)
 have H : ((sum_Sum.f l0).bind fun t119 => (some (([(t119) % 256, (t119 / 256) % 256, (t119 / 65536) % 256, (t119 / 16777216) % 256] : List Int)))) = some r := h
 clear h
 replace H := Option.bind_eq_some_iff.mp H
 obtain ⟨t119, A20, H⟩ := H
 replace H : (some (([(t119) % 256, (t119 / 256) % 256, (t119 / 65536) % 256, (t119 / 16777216) % 256] : List Int))) = some r := H
 have A2 := Aside0.mk A20
 clear A20
 obtain ⟨y120, hy120⟩ : ∃ y_ : List Int, y_ = (([(t119) % 256, (t119 / 256) % 256, (t119 / 65536) % 256, (t119 / 16777216) % 256] : List Int)) := ⟨_, rfl⟩
 replace H : (some y120) = some r := by first | (rw [hy120]; with_reducible exact H) | (have H2_ := (Option.bind_some _ _).symm.trans H; rw [hy120]; with_reducible exact H2_) | (have H2_ := (Option.bind_some _ _).symm.trans H; with_reducible exact H2_) | with_reducible exact H | (rw [hy120]; exact H) | exact H
 have Ny120 := Aside0.mk hy120
 clear hy120
 obtain rfl := Option.some.inj H
 go_enter Tryd.func32, Tryd.ntmps32
 go_wp2_with (first | ((with_reducible refine gate_callee (f := 48) rfl ?_); refine goesL_ (some 5) rfl rfl Tryd.func48 q18_ rfl #[.slice A0 l0.length c0] rfl q1_ ?_; (with_reducible refine (sum_Sum.calls _ _ l0 t119 _ ?side1 ?side2 A2.out).mono ?_); (case side1 => repeat (first | exact HR0.out | (with_reducible refine Kd.C_alloc ?_ _) | (with_reducible refine Kd.C_drewN ?_ _) | (with_reducible refine Kd.C_drew ?_))); (case side2 => exact HC0.out); rintro e w3 ⟨rfl, hb⟩; refine ⟨_, rfl, ?_⟩; have n0_ := Aside0.mk (below_step q0_ hb); clear HB; have HB := n0_; clear n0_; (try clear hb); (try clear hb2); (try clear hk); (try clear hi)) | ((with_reducible refine gate_dst (N := 17) rfl ?_); refine Kd.R_lit (Kd.int .u8) _ 5 ?hg (N := 17) ?hd (xs := ([(t119) % 256, (t119 / 256) % 256, (t119 / 65536) % 256, (t119 / 16777216) % 256] : List Int)) (inner := [.int .u8 ((t119) % 256), .int .u8 ((t119 / 256) % 256), .int .u8 ((t119 / 65536) % 256), .int .u8 ((t119 / 16777216) % 256)]) (ok := fun _ => True) (okp := fun _ => True) ?hr ?hp (fun _ hk => hk) trivial (Below.refl _ _) (Nat.le_refl _) (by simp) ?_; (case hd => rfl); (case hg => rfl); (case hr => first | (go_simp; done) | (go_simp; rfl)); (case hp => exact (Reps.one (show Kd.M (Kd.int .u8) _ _ _ ((t119) % 256) [.int .u8 ((t119) % 256)] from rfl) (Reps.one (show Kd.M (Kd.int .u8) _ _ _ ((t119 / 256) % 256) [.int .u8 ((t119 / 256) % 256)] from rfl) (Reps.one (show Kd.M (Kd.int .u8) _ _ _ ((t119 / 65536) % 256) [.int .u8 ((t119 / 65536) % 256)] from rfl) (Reps.one (show Kd.M (Kd.int .u8) _ _ _ ((t119 / 16777216) % 256) [.int .u8 ((t119 / 16777216) % 256)] from rfl) (Reps.none _ _)))))); intro v121 w4 ho5 hb hg_ hnew_; clear hg_ hnew_; (first | rw [← Ny120.out] at ho5 | (simp only [Int.reduceToNat] at ho5; rw [← Ny120.out] at ho5)); have n0_ := Aside0.mk (Kd.R_lower ho5 (below_size q0_)); have n1_ := Aside0.mk (below_step q0_ hb); clear HB; have HO122 := n0_; have HB := n1_; clear n0_ n1_; clear hb ho5))
 go_ret
 exact ⟨_, by first | rfl | (simp [errW_none, errW_some] <;> rfl) | (simp [*, errW_none, errW_some] <;> rfl), by (with_reducible repeat (first | apply Kd.R_alloc | apply Kd.R_drewN | apply Kd.R_drew)); exact HO122.out, by repeat (first | (with_reducible first | exact HB.out | apply below_alloc | apply pw_below_drewN | apply below_drew1) | exact HB.out)⟩
theorem stream_tail.calls (A0 : Option Addr) (c0 : Nat) (l0 : List Int) (r : List Int) (w : World) (hr0 : Kd.C (Kd.int .u8) w A0 l0.length l0) (hc0 : l0.length ≤ c0) (h : stream_tail.f l0 = some r) :
  Calls Tryd.prog 32 #[.slice A0 l0.length c0] w fun e w' => ∃ v0_ : Value, e = .returned (v0_) ∧ Kd.V (Kd.int .u8) 5 w' w.heap.size (fun k_ => (w.heap.size ≤ k_)) v0_ r ∧ Below w.heap.size w w' := by
 refine (stream_tail.callsR A0 c0 l0 r w hr0 hc0 h).mono ?_
 rintro e w' ⟨v_, rfl, ho, hb⟩
 exact ⟨v_, rfl, Kd.V_mono (Kd.R_V (Kd.R_bound ho)) (fun k_ hk => hk.2.1), hb⟩
mutual
def stream_Put.j0 : Nat → List (S37) → List Int → Option (List Int × Int)
 | 0, _, _ => none
 | k + 1, x0, x6 => stream_Put.l0 k x6 x0 (x0.length : Int) 0
def stream_Put.l0 : Nat → List Int → List (S37) → Int → Int → Option (List Int × Int)
 | 0, _, _, _, _ => none
 | k + 1, x6, x18, x19, x20 => if x20 < x19 then (if 0 ≤ x20 then (if x20 < (x18.length : Int) then ((stream_Good.f k ((rd_T37 x18 x20).f0) ((rd_T37 x18 x20).f1) ((rd_T37 x18 x20).f2) ((rd_T37 x18 x20).f3) ((rd_T37 x18 x20).f4)).bind fun t141 => (if t141 = true then ((num_PutText.f (([((rd_T37 x18 x20).f0) % 256] : List Int)) ((rd_T37 x18 x20).f1)).bind fun bt145 => (if ((rd_T37 x18 x20).f0) = 3 then ((num_PutText.f bt145.1 ((rd_T37 x18 x20).f2)).bind fun bt149 => (if x6.length + bt149.1.length < 140737488355328 then (stream_Put.l0 k (x6 ++ bt149.1) x18 x19 (wrap64 (x20 + 1))) else (none))) else (if ((rd_T37 x18 x20).f0) = 5 then ((num_Put.f bt145.1 ((rd_T37 x18 x20).f3) 4).bind fun t156 => (if x6.length + t156.length < 140737488355328 then (stream_Put.l0 k (x6 ++ t156) x18 x19 (wrap64 (x20 + 1))) else (none))) else (if ((rd_T37 x18 x20).f0) = 4 then ((num_Put.f bt145.1 ((rd_T37 x18 x20).f3) 4).bind fun t162 => ((num_PutBytes.f t162 ((rd_T37 x18 x20).f4)).bind fun bt165 => (if x6.length + bt165.1.length < 140737488355328 then (stream_Put.l0 k (x6 ++ bt165.1) x18 x19 (wrap64 (x20 + 1))) else (none)))) else (if x6.length + bt145.1.length < 140737488355328 then (stream_Put.l0 k (x6 ++ bt145.1) x18 x19 (wrap64 (x20 + 1))) else (none)))))) else (some (([] : List Int), 1)))) else (none)) else (none)) else (if x6.length < 140737488355328 then ((some (x6 ++ [8] : List Int)).bind fun y130 => ((stream_tail.f y130).bind fun t133 => (if y130.length + t133.length < 140737488355328 then ((some (y130 ++ t133 : List Int)).bind fun y136 => (if (y136.length : Int) > 65536 then (some (([] : List Int), 7)) else (some (y136, 0)))) else (none)))) else (none))
end
def stream_Put.f (k : Nat) (l0 : List (S37)) (a1 : Bool) : Option (List Int × Int) := (some (([67, 66] : List Int) : List Int)).bind fun y123 => (if y123.length < 140737488355328 then ((some (y123 ++ [0] : List Int)).bind fun y126 => (if a1 = true then (if 2 < (y126.length : Int) then (stream_Put.j0 k l0 (y126.set (2 : Int).toNat 1)) else (none)) else (stream_Put.j0 k l0 y126))) else (none))
theorem stream_Put.mono_l : ∀ k, (∀ y0 y1, LeO (stream_Put.j0 k y0 y1) (stream_Put.j0 (k + 1) y0 y1)) ∧ (∀ y0 y1 y2 y3, LeO (stream_Put.l0 k y0 y1 y2 y3) (stream_Put.l0 (k + 1) y0 y1 y2 y3))
 | 0 => ⟨fun _ _ r h => by simp [stream_Put.j0] at h, fun _ _ _ _ r h => by simp [stream_Put.l0] at h⟩
 | k + 1 => by
  obtain ⟨ih0, ih1⟩ := stream_Put.mono_l k
  refine ⟨?_, ?_⟩
  ·intro y0 y1
   unfold stream_Put.j0
   repeat' first
   | (with_reducible exact ih0 _ _)
   | (with_reducible exact ih1 _ _ _ _)
   | (with_reducible exact stream_Good.mono _ _ _ _ _ _)
   | (with_reducible exact LeO.refl _)
   | (with_reducible exact LeO.none _)
   | (with_reducible refine LeO.ite ?_ ?_)
   | (with_reducible refine LeO.bind ?_ (fun _ => ?_))
   | exact ih0 _ _
   | exact ih1 _ _ _ _
   | exact stream_Good.mono _ _ _ _ _ _
   | exact LeO.none _
   | refine LeO.ite ?_ ?_
   | refine LeO.bind ?_ (fun _ => ?_)
  ·intro y0 y1 y2 y3
   unfold stream_Put.l0
   repeat' first
   | (with_reducible exact ih0 _ _)
   | (with_reducible exact ih1 _ _ _ _)
   | (with_reducible exact stream_Good.mono _ _ _ _ _ _)
   | (with_reducible exact LeO.refl _)
   | (with_reducible exact LeO.none _)
   | (with_reducible refine LeO.ite ?_ ?_)
   | (with_reducible refine LeO.bind ?_ (fun _ => ?_))
   | exact ih0 _ _
   | exact ih1 _ _ _ _
   | exact stream_Good.mono _ _ _ _ _ _
   | exact LeO.none _
   | refine LeO.ite ?_ ?_
   | refine LeO.bind ?_ (fun _ => ?_)
theorem stream_Put.mono : ∀ a0 a1 k, LeO (stream_Put.f k a0 a1) (stream_Put.f (k + 1) a0 a1) := by
 intro a0 a1 k
 obtain ⟨ih0, ih1⟩ := stream_Put.mono_l k
 unfold stream_Put.f
 repeat' first
   | (with_reducible exact ih0 _ _)
   | (with_reducible exact ih1 _ _ _ _)
   | (with_reducible exact stream_Good.mono _ _ _ _ _ _)
   | (with_reducible exact LeO.refl _)
   | (with_reducible exact LeO.none _)
   | (with_reducible refine LeO.ite ?_ ?_)
   | (with_reducible refine LeO.bind ?_ (fun _ => ?_))
   | exact ih0 _ _
   | exact ih1 _ _ _ _
   | exact stream_Good.mono _ _ _ _ _ _
   | exact LeO.none _
   | refine LeO.ite ?_ ?_
   | refine LeO.bind ?_ (fun _ => ?_)
def stream_Put.T16 : Bool × List (List Nat × List Nat) := (true, [([], []), ([], []), ([1], [1]), ([0, 2], [0, 2]), ([], []), ([4], [4]), ([3, 5, 3], [3, 5]), ([6], [6]), ([7], [7]), ([7], [7]), ([8, 6, 0, 1, 2, 3, 4, 5, 6, 7, 8], [0, 8])])
def stream_Put.B16 : List Nat := [0, 0, 2, 7, 0, 16, 63, 127, 255, 255, 511]
theorem stream_Put.tab16 : rtab .any (opsOf Tryd.f19 16) = stream_Put.T16 := by kernel_rfl
theorem stream_Put.bits16 : waitsOk stream_Put.T16.2 stream_Put.B16 = true := by kernel_rfl
set_option maxHeartbeats 8000000 in
set_option maxRecDepth 100000 in
theorem stream_Put.calls (k : Nat) (A0 : Option Addr) (c0 : Nat) (l0 : List (S37)) (a1 : Bool) (r1 : List Int) (r2 : Int) (w : World) (hr0 : Kd.C k37 w A0 l0.length l0) (hc0 : l0.length ≤ c0) (h : stream_Put.f k l0 a1 = some (r1, r2)) :
  Calls Tryd.prog 19 #[.slice A0 l0.length c0, .bool a1] w fun e w' => ∃ v0_ : Value, e = .returned (.tuple #[v0_, .int .i64 r2]) ∧ Kd.R (Kd.int .u8) 5 w' w.heap.size (fun _ => True) v0_ r1 ∧ Below w.heap.size w w' := by
 have hu37 := Tryd.underlying37
 have HR0 := Aside0.mk hr0
 have HC0 := Aside0.mk hc0
 clear hr0 hc0
 have HB := Aside0.mk (Below.refl w.heap.size w)
 have H : ((some (([67, 66] : List Int) : List Int)).bind fun y123 => (if y123.length < 140737488355328 then ((some (y123 ++ [0] : List Int)).bind fun y126 => (if a1 = true then (if 2 < (y126.length : Int) then (stream_Put.j0 k l0 (y126.set (2 : Int).toNat 1)) else (none)) else (stream_Put.j0 k l0 y126))) else (none))) = some (r1, r2) := h
 clear h
 obtain ⟨y123, hy123⟩ : ∃ y_ : List Int, y_ = (([67, 66] : List Int)) := ⟨_, rfl⟩
 replace H : (if y123.length < 140737488355328 then ((some (y123 ++ [0] : List Int)).bind fun y126 => (if a1 = true then (if 2 < (y126.length : Int) then (stream_Put.j0 k l0 (y126.set (2 : Int).toNat 1)) else (none)) else (stream_Put.j0 k l0 y126))) else (none)) = some (r1, r2) := by first | (rw [hy123]; with_reducible exact H) | (have H2_ := (Option.bind_some _ _).symm.trans H; rw [hy123]; with_reducible exact H2_) | (have H2_ := (Option.bind_some _ _).symm.trans H; with_reducible exact H2_) | with_reducible exact H | (rw [hy123]; exact H) | exact H
 have Ny123 := Aside0.mk hy123
 clear hy123
 by_cases c3 : y123.length < 140737488355328
 ·rw [if_pos c3] at H
  have LMc3 := Aside0.mk c3
  clear c3
  obtain ⟨y126, hy126⟩ : ∃ y_ : List Int, y_ = (y123 ++ [0]) := ⟨_, rfl⟩
  replace H : (if a1 = true then (if 2 < (y126.length : Int) then (stream_Put.j0 k l0 (y126.set (2 : Int).toNat 1)) else (none)) else (stream_Put.j0 k l0 y126)) = some (r1, r2) := by first | (rw [hy126]; with_reducible exact H) | (have H2_ := (Option.bind_some _ _).symm.trans H; rw [hy126]; with_reducible exact H2_) | (have H2_ := (Option.bind_some _ _).symm.trans H; with_reducible exact H2_) | with_reducible exact H | (rw [hy126]; exact H) | exact H
  have Ny126 := Aside0.mk hy126
  clear hy126
  have HC4 := Aside0.mk H
  clear H
  obtain ⟨A12, hA12⟩ : ∃ A : Option Addr, some ⟨w.heap.size, 0, none⟩ = A := ⟨_, rfl⟩
  obtain ⟨w12, hw12⟩ : ∃ W : World, w.alloc (.cells #[.int .u8 67, .int .u8 66] 5 (2, 3)) = W := ⟨_, rfl⟩
  have kc : (convert 35 35 (.slice (some ⟨w.heap.size, 0, none⟩) 2 2)).run Tryd.prog (w.alloc (.cells #[.int .u8 67, .int .u8 66] 5)) = .ok (.slice A12 2 2) w12 := by rw [← hA12, ← hw12]; exact Lib.run_convert_bytes_const (P := Tryd.prog) w 35 5 #[.int .u8 67, .int .u8 66] 2 2 Tryd.underlying35 Tryd.underlying5
  have HX12 := Aside0.mk (show Kd.C (Kd.int .u8) w12 A12 ([67, 66] : List Int).length [67, 66] by rw [← hA12, ← hw12]; exact Own.marked_reads w 5 [67, 66] _ (2, 3) rfl q81_)
  have HXB := Aside0.mk (show Below w.heap.size w w12 by rw [← hw12]; exact below_alloc (Below.refl _ _) _)
  clear hA12 hw12
  go_enter Tryd.func19, Tryd.ntmps19
  go_upto_if 15 with ((with_reducible refine gate_builtin (b := .append) (xs := #[.tmp 12, .tmp 13]) rfl ?_); at_builtin; refine Own.append_marked rfl (.tmp 12) (.tmp 13) 35 5 rfl Tryd.underlying35 info5 A12 [67, 66] rfl HX12.out q81_ 0 rfl q81_ ?_; intro v127 w7 ho hb; rw [show ([67, 66] : List Int) ++ [0] = y126 from by rw [Ny126.out, Ny123.out]] at ho; have n0_ := Aside0.mk (below_step HXB.out hb); have n1_ := Aside0.mk (Kd.R_lower ho HXB.out.size); clear HB; have HB := n0_; have HO128 := n1_; clear n0_ n1_ ho hb)
  (try simp only [Act.put, List.setIfInBounds_toArray, List.set_cons_zero, List.set_cons_succ])
  go_cut [] (fun wc => ∃ (kq : Nat) (x6_3 : List Int), Aside0 (stream_Put.j0 kq l0 x6_3 = some (r1, r2)) ∧ Aside0 (kq ≤ k) ∧ Aside0 (Kd.R (Kd.int .u8) 5 wc w.heap.size (fun _ => True) v127 x6_3) ∧ Aside0 (Below w.heap.size w wc))
  case first =>
   have H := HC4.out
   clear HC4
   by_cases c8 : a1 = true
   ·subst c8
    have H1 : (if 2 < (y126.length : Int) then (stream_Put.j0 k l0 (y126.set (2 : Int).toNat 1)) else (none)) = some (r1, r2) := by rw [if_pos rfl] at H; exact H
    clear H
    have H := H1
    clear H1
    by_cases c9 : 2 < (y126.length : Int)
    ·rw [if_pos c9] at H
     have c9b0 : decide (2 < (y126.length : Int)) = true := decide_eq_true c9
     have c9b1 : decide (2 < y126.length) = true := decide_eq_true (by omega)
     clear c9
     (first | rw [c9b0] | (simp only [i64_w, i32_w]; rw [c9b0]) | skip)
     obtain ⟨y129, hy129⟩ : ∃ y_ : List Int, y_ = (y126.set (2 : Int).toNat 1) := ⟨_, rfl⟩
     replace H : (stream_Put.j0 k l0 y129) = some (r1, r2) := by first | (rw [hy129]; with_reducible exact H) | (have H2_ := (Option.bind_some _ _).symm.trans H; rw [hy129]; with_reducible exact H2_) | (have H2_ := (Option.bind_some _ _).symm.trans H; with_reducible exact H2_) | with_reducible exact H | (rw [hy129]; exact H) | exact H
     have Ny129 := Aside0.mk hy129
     clear hy129
     have H' := Aside0.mk H
     clear H
     have p10 : 0 ≤ (2 : Int) := (by omega)
     have q10 : (2 : Int) < ((y126.length : Int) : Int) := of_decide_eq_true q7_
     have qi10 : (2 < y126.length) = True := eq_true (by omega)
     obtain ⟨go10, co10, eo10, gb10, gl10, cl10, HG10⟩ := Kd.R_form HO128.out (by omega)
     (first | cases eo10 | (injection eo10 with ea_ en_ ec_; (first | subst ea_ | (injection ea_ with ea_; subst ea_)); subst ec_; clear en_))
     have GB10 := Aside0.mk gb10
     have GG10 := Aside0.mk HG10
     clear gb10 gl10 HG10
     obtain ⟨hx10_0, hf10_0⟩ := Kd.R_celln 0 HO128.out (2 : Int) p10 q10
     (try rw [show ((2 : Int)).toNat = 2 from rfl] at hx10_0)
     (try simp only [Nat.reduceMul, Nat.zero_mul, Nat.zero_add, Nat.reduceAdd] at hx10_0)
     (try rw [show ((2 : Int)).toNat = 2 from rfl] at hf10_0)
     (try simp only [Nat.reduceMul, Nat.zero_mul, Nat.zero_add, Nat.reduceAdd] at hf10_0)
     replace p10 := eq_true p10
     replace q10 := eq_true q10
     have HP11 := Kd.R_putg HO128.out (2 : Int) 1
     go_wp2_with (first | ((with_reducible refine gate_store (t := 5) (p := 17) rfl ?_); refine store_event (t := 5) (p := 17) (v := ?vo_w12) (w1 := (w7.setCell ⟨go10, (2 : Int).toNat, none⟩ (.int .u8 1))) ?hg ?ho ?hn ?hr ?_; (case ho => rfl); (case hg => rfl); (case hn => rfl); (case hr => first | (go_simp; done) | (go_simp; rfl)); intro w12 hw; have hg : w7.grownBy w12 (some go10) := (by rw [hw]; exact HP11.2); have hp_ : Kd.R (Kd.int .u8) 5 w12 w.heap.size (fun _ => True) (.slice (some ⟨go10, 0, none⟩) y126.length co10) y129 := (by rw [hw, Ny129.out]; exact HP11.1); clear HP11; have n0_ := Aside0.mk (hp_); have n1_ := Aside0.mk ((by rw [hw]; exact below_set (HB.out) GB10.out : Below w.heap.size w w12)); clear HO128; clear HB; have HO128 := n0_; have HB := n1_; clear n0_ n1_; clear hg hw hp_))
     go_meet
     case rel => exact ⟨_, (y129), H', ⟨q51_⟩, ⟨by (with_reducible repeat (first | apply Kd.R_alloc | apply Kd.R_drewN | apply Kd.R_drew)); exact HO128.out⟩, ⟨q0_⟩⟩
    ·rw [if_neg c9] at H
     exact absurd H (by simp)
   ·replace c8 := Bool.eq_false_iff.mpr c8
    subst c8
    have H1 : (stream_Put.j0 k l0 y126) = some (r1, r2) := by rw [if_neg (show ¬ (false = true) by decide)] at H; exact H
    clear H
    have H := H1
    clear H1
    have H' := Aside0.mk H
    clear H
    go_wp2
    go_meet
    case rel => exact ⟨_, (y126), H', ⟨q51_⟩, ⟨by (with_reducible repeat (first | apply Kd.R_alloc | apply Kd.R_drewN | apply Kd.R_drew)); exact HO128.out⟩, ⟨q0_⟩⟩
  case rest =>
   clear HC4
   try clear c1
   try clear p1
   try clear q1
   try clear hx1
   try clear qi1
   try clear p2
   try clear c3
   try clear c8
   try clear c9
   try clear c9b0
   try clear c9b1
   try clear p10
   try clear q10
   try clear hx10
   try clear qi10
   try clear hf10
   try clear hx10_0
   try clear p10
   try clear q10
   obtain ⟨kq, x6_3, HA, HJ3, HO_6, HB⟩ := hcut
   cases kq with
   | zero => exact absurd (show none = some _ from HA.out) (by simp)
   | succ kj3 =>
    have H := HA.out
    clear HA
    simp only [stream_Put.j0] at H
    have H' := Aside0.mk H
    clear H
    go_wp2
    go_loopg [6, 20] kj3 (fun kq v6 v20 w' => ∃ (x6_2 : List Int) (x20_2 : Int), v20 = .int .i64 x20_2 ∧ Aside0 (stream_Put.l0 kq x6_2 l0 (l0.length : Int) x20_2 = some (r1, r2)) ∧ Aside0 (kq ≤ kj3) ∧ Aside0 (Kd.R (Kd.int .u8) 5 w' w.heap.size (fun _ => True) v6 x6_2) ∧ Aside0 (Below w.heap.size w w'))
    case atStart => exact ⟨(x6_3), (0), q3_, H', ⟨Nat.le_refl _⟩, ⟨q5_⟩, ⟨q0_⟩⟩
    case round =>
     clear H'
     try clear c1
     try clear p1
     try clear q1
     try clear hx1
     try clear qi1
     try clear p2
     try clear c3
     try clear c8
     try clear c9
     try clear c9b0
     try clear c9b1
     try clear p10
     try clear q10
     try clear hx10
     try clear qi10
     try clear hf10
     try clear hx10_0
     try clear p1
     try clear p10
     try clear p2
     try clear q1
     try clear q10
     obtain ⟨x6_2, x20_2, rfl, HA, HK2, HO_6, HB⟩ := hrel
     cases gk with
     | zero => exact absurd (show none = some _ from HA.out) (by simp)
     | succ k2 =>
      have H := HA.out
      clear HA
      simp only [stream_Put.l0] at H
      by_cases c13 : x20_2 < (l0.length : Int)
      ·rw [if_pos c13] at H
       have c13b0 : decide (x20_2 < (l0.length : Int)) = true := decide_eq_true c13
       clear c13
       by_cases c14 : 0 ≤ x20_2
       ·rw [if_pos c14] at H
        have c14b0 : decide (0 ≤ x20_2) = true := decide_eq_true c14
        clear c14
        by_cases c15 : x20_2 < (l0.length : Int)
        ·rw [if_pos c15] at H
         have c15b0 : decide (x20_2 < (l0.length : Int)) = true := decide_eq_true c15
         clear c15
         replace H := Option.bind_eq_some_iff.mp H
         obtain ⟨t141, A160, H⟩ := H
         replace H : (if t141 = true then ((num_PutText.f (([((rd_T37 l0 x20_2).f0) % 256] : List Int)) ((rd_T37 l0 x20_2).f1)).bind fun bt145 => (if ((rd_T37 l0 x20_2).f0) = 3 then ((num_PutText.f bt145.1 ((rd_T37 l0 x20_2).f2)).bind fun bt149 => (if x6_2.length + bt149.1.length < 140737488355328 then (stream_Put.l0 k2 (x6_2 ++ bt149.1) l0 (l0.length : Int) (wrap64 (x20_2 + 1))) else (none))) else (if ((rd_T37 l0 x20_2).f0) = 5 then ((num_Put.f bt145.1 ((rd_T37 l0 x20_2).f3) 4).bind fun t156 => (if x6_2.length + t156.length < 140737488355328 then (stream_Put.l0 k2 (x6_2 ++ t156) l0 (l0.length : Int) (wrap64 (x20_2 + 1))) else (none))) else (if ((rd_T37 l0 x20_2).f0) = 4 then ((num_Put.f bt145.1 ((rd_T37 l0 x20_2).f3) 4).bind fun t162 => ((num_PutBytes.f t162 ((rd_T37 l0 x20_2).f4)).bind fun bt165 => (if x6_2.length + bt165.1.length < 140737488355328 then (stream_Put.l0 k2 (x6_2 ++ bt165.1) l0 (l0.length : Int) (wrap64 (x20_2 + 1))) else (none)))) else (if x6_2.length + bt145.1.length < 140737488355328 then (stream_Put.l0 k2 (x6_2 ++ bt145.1) l0 (l0.length : Int) (wrap64 (x20_2 + 1))) else (none)))))) else (some (([] : List Int), 1))) = some (r1, r2) := H
         have A16 := Aside0.mk A160
         clear A160
         by_cases c17 : t141 = true
         ·subst c17
          have H1 : ((num_PutText.f (([((rd_T37 l0 x20_2).f0) % 256] : List Int)) ((rd_T37 l0 x20_2).f1)).bind fun bt145 => (if ((rd_T37 l0 x20_2).f0) = 3 then ((num_PutText.f bt145.1 ((rd_T37 l0 x20_2).f2)).bind fun bt149 => (if x6_2.length + bt149.1.length < 140737488355328 then (stream_Put.l0 k2 (x6_2 ++ bt149.1) l0 (l0.length : Int) (wrap64 (x20_2 + 1))) else (none))) else (if ((rd_T37 l0 x20_2).f0) = 5 then ((num_Put.f bt145.1 ((rd_T37 l0 x20_2).f3) 4).bind fun t156 => (if x6_2.length + t156.length < 140737488355328 then (stream_Put.l0 k2 (x6_2 ++ t156) l0 (l0.length : Int) (wrap64 (x20_2 + 1))) else (none))) else (if ((rd_T37 l0 x20_2).f0) = 4 then ((num_Put.f bt145.1 ((rd_T37 l0 x20_2).f3) 4).bind fun t162 => ((num_PutBytes.f t162 ((rd_T37 l0 x20_2).f4)).bind fun bt165 => (if x6_2.length + bt165.1.length < 140737488355328 then (stream_Put.l0 k2 (x6_2 ++ bt165.1) l0 (l0.length : Int) (wrap64 (x20_2 + 1))) else (none)))) else (if x6_2.length + bt145.1.length < 140737488355328 then (stream_Put.l0 k2 (x6_2 ++ bt145.1) l0 (l0.length : Int) (wrap64 (x20_2 + 1))) else (none)))))) = some (r1, r2) := by rw [if_pos rfl] at H; exact H
          clear H
          have H := H1
          clear H1
          obtain ⟨y142, hy142⟩ : ∃ y_ : List Int, y_ = (([((rd_T37 l0 x20_2).f0) % 256] : List Int)) := ⟨_, rfl⟩
          replace H : ((num_PutText.f y142 ((rd_T37 l0 x20_2).f1)).bind fun bt145 => (if ((rd_T37 l0 x20_2).f0) = 3 then ((num_PutText.f bt145.1 ((rd_T37 l0 x20_2).f2)).bind fun bt149 => (if x6_2.length + bt149.1.length < 140737488355328 then (stream_Put.l0 k2 (x6_2 ++ bt149.1) l0 (l0.length : Int) (wrap64 (x20_2 + 1))) else (none))) else (if ((rd_T37 l0 x20_2).f0) = 5 then ((num_Put.f bt145.1 ((rd_T37 l0 x20_2).f3) 4).bind fun t156 => (if x6_2.length + t156.length < 140737488355328 then (stream_Put.l0 k2 (x6_2 ++ t156) l0 (l0.length : Int) (wrap64 (x20_2 + 1))) else (none))) else (if ((rd_T37 l0 x20_2).f0) = 4 then ((num_Put.f bt145.1 ((rd_T37 l0 x20_2).f3) 4).bind fun t162 => ((num_PutBytes.f t162 ((rd_T37 l0 x20_2).f4)).bind fun bt165 => (if x6_2.length + bt165.1.length < 140737488355328 then (stream_Put.l0 k2 (x6_2 ++ bt165.1) l0 (l0.length : Int) (wrap64 (x20_2 + 1))) else (none)))) else (if x6_2.length + bt145.1.length < 140737488355328 then (stream_Put.l0 k2 (x6_2 ++ bt145.1) l0 (l0.length : Int) (wrap64 (x20_2 + 1))) else (none)))))) = some (r1, r2) := by first | (rw [hy142]; with_reducible exact H) | (have H2_ := (Option.bind_some _ _).symm.trans H; rw [hy142]; with_reducible exact H2_) | (have H2_ := (Option.bind_some _ _).symm.trans H; with_reducible exact H2_) | with_reducible exact H | (rw [hy142]; exact H) | exact H
          have Ny142 := Aside0.mk hy142
          clear hy142
          replace H := Option.bind_eq_some_iff.mp H
          obtain ⟨⟨t145, t146⟩, A180, H⟩ := H
          replace H : (if ((rd_T37 l0 x20_2).f0) = 3 then ((num_PutText.f t145 ((rd_T37 l0 x20_2).f2)).bind fun bt149 => (if x6_2.length + bt149.1.length < 140737488355328 then (stream_Put.l0 k2 (x6_2 ++ bt149.1) l0 (l0.length : Int) (wrap64 (x20_2 + 1))) else (none))) else (if ((rd_T37 l0 x20_2).f0) = 5 then ((num_Put.f t145 ((rd_T37 l0 x20_2).f3) 4).bind fun t156 => (if x6_2.length + t156.length < 140737488355328 then (stream_Put.l0 k2 (x6_2 ++ t156) l0 (l0.length : Int) (wrap64 (x20_2 + 1))) else (none))) else (if ((rd_T37 l0 x20_2).f0) = 4 then ((num_Put.f t145 ((rd_T37 l0 x20_2).f3) 4).bind fun t162 => ((num_PutBytes.f t162 ((rd_T37 l0 x20_2).f4)).bind fun bt165 => (if x6_2.length + bt165.1.length < 140737488355328 then (stream_Put.l0 k2 (x6_2 ++ bt165.1) l0 (l0.length : Int) (wrap64 (x20_2 + 1))) else (none)))) else (if x6_2.length + t145.length < 140737488355328 then (stream_Put.l0 k2 (x6_2 ++ t145) l0 (l0.length : Int) (wrap64 (x20_2 + 1))) else (none))))) = some (r1, r2) := H
          have A18 := Aside0.mk A180
          clear A180
          by_cases c19 : ((rd_T37 l0 x20_2).f0) = 3
          ·rw [if_pos c19] at H
           have c19b0 : (((rd_T37 l0 x20_2).f0) == 3) = true := beq_iff_eq.mpr c19
           have c19b1 : (((rd_T37 l0 x20_2).f0) != 3) = false := bne_eq_false_iff_eq.mpr c19
           clear c19
           replace H := Option.bind_eq_some_iff.mp H
           obtain ⟨⟨t149, t150⟩, A200, H⟩ := H
           replace H : (if x6_2.length + t149.length < 140737488355328 then (stream_Put.l0 k2 (x6_2 ++ t149) l0 (l0.length : Int) (wrap64 (x20_2 + 1))) else (none)) = some (r1, r2) := H
           have A20 := Aside0.mk A200
           clear A200
           by_cases c21 : x6_2.length + t149.length < 140737488355328
           ·rw [if_pos c21] at H
            have LMc21 := Aside0.mk c21
            clear c21
            obtain ⟨y153, hy153⟩ : ∃ y_ : List Int, y_ = (x6_2 ++ t149) := ⟨_, rfl⟩
            replace H : (stream_Put.l0 k2 y153 l0 (l0.length : Int) (wrap64 (x20_2 + 1))) = some (r1, r2) := by first | (rw [hy153]; with_reducible exact H) | (have H2_ := (Option.bind_some _ _).symm.trans H; rw [hy153]; with_reducible exact H2_) | (have H2_ := (Option.bind_some _ _).symm.trans H; with_reducible exact H2_) | with_reducible exact H | (rw [hy153]; exact H) | exact H
            have Ny153 := Aside0.mk hy153
            clear hy153
            have H' := Aside0.mk H
            clear H
            have p139 : 0 ≤ (x20_2 : Int) := of_decide_eq_true q7_
            have q139 : x20_2 < (l0.length : Int) := of_decide_eq_true q7_
            obtain ⟨ad139, A139_4, c139_4, e139, hx139_0, hx139_1, hx139_2, hx139_3, hx139_4, hl139_4, hi139_4⟩ := at_T37 HR0.out x20_2 p139 q139
            cases e139
            replace hx139_0 := (HB.out.cell (World.block_lt_of_cell? w _ hx139_0)).trans hx139_0
            replace hx139_1 := (HB.out.cell (World.block_lt_of_cell? w _ hx139_1)).trans hx139_1
            replace hx139_2 := (HB.out.cell (World.block_lt_of_cell? w _ hx139_2)).trans hx139_2
            replace hx139_3 := (HB.out.cell (World.block_lt_of_cell? w _ hx139_3)).trans hx139_3
            replace hx139_4 := (HB.out.cell (World.block_lt_of_cell? w _ hx139_4)).trans hx139_4
            have HR139_4 := Aside0.mk hi139_4
            have HC139_4 := Aside0.mk hl139_4
            clear hi139_4 hl139_4
            replace p139 := eq_true p139
            replace q139 := eq_true q139
            go_wp2_with (first | ((with_reducible refine gate_dst (N := 8) rfl ?_); refine box_event ?hg (N := 8) ?hd (cs := #[.int .i64 0, .string (⟨#[]⟩ : ByteArray), .string (⟨#[]⟩ : ByteArray), .int .i64 0, .slice none 0 0]) (t := 37) ?hr ?_; (case hd => rfl); (case hg => rfl); (case hr => first | (go_simp; done) | (go_simp; rfl)); intro gb140 hg w22 hbox hb; have n0_ := Aside0.mk (Kd.R_below q5_ hb); have n1_ := Aside0.mk (below_step q0_ hb); have n2_ := Aside0.mk (hbox); have n3_ := Aside0.mk ((by rw [hg]; exact (below_size q0_) : w.heap.size ≤ gb140)); have n4_ := Aside0.mk ((by rw [hg]; exact (below_size q0_) : w.heap.size ≤ gb140)); clear HO_6; clear HB; have HO_6 := n0_; have HB := n1_; have BK140 := n2_; have GW140 := n3_; have GE140 := n4_; clear n0_ n1_ n2_ n3_ n4_; clear hb hbox hg; have hcz23_0 : w22.cell? ⟨gb140, 0, none⟩ = some (.int .i64 0) := (blk_cell BK140.out 0).trans rfl; have hcz23_1 : w22.cell? ⟨gb140, 1, none⟩ = some (.string (⟨#[]⟩ : ByteArray)) := (blk_cell BK140.out 1).trans rfl; have hcz23_2 : w22.cell? ⟨gb140, 2, none⟩ = some (.string (⟨#[]⟩ : ByteArray)) := (blk_cell BK140.out 2).trans rfl; have hcz23_3 : w22.cell? ⟨gb140, 3, none⟩ = some (.int .i64 0) := (blk_cell BK140.out 3).trans rfl; have hcz23_4 : w22.cell? ⟨gb140, 4, none⟩ = some (.slice none 0 0) := (blk_cell BK140.out 4).trans rfl; have hfz23_0 := blk_frozen BK140.out 0; have hfz23_1 := blk_frozen BK140.out 1; have hfz23_2 := blk_frozen BK140.out 2; have hfz23_3 := blk_frozen BK140.out 3; have hfz23_4 := blk_frozen BK140.out 4) | ((with_reducible refine gate_callee (f := 17) rfl ?_); refine goesL_ (some 25) rfl rfl Tryd.func17 q18_ rfl #[.agg #[.int .i64 ((rd_T37 l0 x20_2).f0), .string ((rd_T37 l0 x20_2).f1), .string ((rd_T37 l0 x20_2).f2), .int .i64 ((rd_T37 l0 x20_2).f3), .slice A139_4 ((rd_T37 l0 x20_2).f4).length c139_4]] rfl q1_ ?_; (with_reducible refine (stream_Good.calls k2 ((rd_T37 l0 x20_2).f0) ((rd_T37 l0 x20_2).f1) ((rd_T37 l0 x20_2).f2) ((rd_T37 l0 x20_2).f3) _ _ ((rd_T37 l0 x20_2).f4) true _ ?side1 ?side2 A16.out).mono ?_); (case side1 => exact Kd.C_below HR139_4.out q4_); (case side2 => exact HC139_4.out); rintro e w24 ⟨rfl, hb⟩; refine ⟨_, rfl, ?_⟩; have n0_ := Aside0.mk (Kd.R_below q22_ hb); have n1_ := Aside0.mk (blk_below (g := gb140) (o := .cells #[.int .i64 ((rd_T37 l0 x20_2).f0), .string ((rd_T37 l0 x20_2).f1), .string ((rd_T37 l0 x20_2).f2), .int .i64 ((rd_T37 l0 x20_2).f3), .slice A139_4 ((rd_T37 l0 x20_2).f4).length c139_4] 37 (0, 0)) q6_ hb); have n2_ := Aside0.mk (below_step q4_ hb); clear HO_6; clear BK140; clear HB; have HO_6 := n0_; have BK140 := n1_; have HB := n2_; clear n0_ n1_ n2_; (try clear hb); (try clear hb2); (try clear hk); (try clear hi); have hcz25_0 : w24.cell? ⟨gb140, 0, none⟩ = some (.int .i64 ((rd_T37 l0 x20_2).f0)) := (blk_cell BK140.out 0).trans rfl; have hcz25_1 : w24.cell? ⟨gb140, 1, none⟩ = some (.string ((rd_T37 l0 x20_2).f1)) := (blk_cell BK140.out 1).trans rfl; have hcz25_2 : w24.cell? ⟨gb140, 2, none⟩ = some (.string ((rd_T37 l0 x20_2).f2)) := (blk_cell BK140.out 2).trans rfl; have hcz25_3 : w24.cell? ⟨gb140, 3, none⟩ = some (.int .i64 ((rd_T37 l0 x20_2).f3)) := (blk_cell BK140.out 3).trans rfl; have hcz25_4 : w24.cell? ⟨gb140, 4, none⟩ = some (.slice A139_4 ((rd_T37 l0 x20_2).f4).length c139_4) := (blk_cell BK140.out 4).trans rfl; have hfz25_0 := blk_frozen BK140.out 0; have hfz25_1 := blk_frozen BK140.out 1; have hfz25_2 := blk_frozen BK140.out 2; have hfz25_3 := blk_frozen BK140.out 3; have hfz25_4 := blk_frozen BK140.out 4) | ((with_reducible refine gate_dst (N := 31) rfl ?_); refine Kd.R_lit (Kd.int .u8) _ 5 ?hg (N := 31) ?hd (xs := ([((rd_T37 l0 x20_2).f0) % 256] : List Int)) (inner := [.int .u8 (((rd_T37 l0 x20_2).f0) % 256)]) (ok := fun _ => True) (okp := fun _ => True) ?hr ?hp (fun _ hk => hk) trivial (Below.refl _ _) (Nat.le_refl _) (by simp) ?_; (case hd => rfl); (case hg => rfl); (case hr => first | (go_simp; done) | (go_simp; rfl)); (case hp => exact (Reps.one (show Kd.M (Kd.int .u8) _ _ _ (((rd_T37 l0 x20_2).f0) % 256) [.int .u8 (((rd_T37 l0 x20_2).f0) % 256)] from rfl) (Reps.none _ _))); intro v143 w26 ho27 hb hg_ hnew_; clear hg_ hnew_; (first | rw [← Ny142.out] at ho27 | (simp only [Int.reduceToNat] at ho27; rw [← Ny142.out] at ho27)); have n0_ := Aside0.mk (Kd.R_elder' q5_ (Kd.R_base ho27) hb); have n1_ := Aside0.mk (Kd.R_lower (Kd.R_new' ho27 (Kd.R_lt q5_)) (below_size q4_)); have n2_ := Aside0.mk (blk_below (g := gb140) (o := .cells #[.int .i64 ((rd_T37 l0 x20_2).f0), .string ((rd_T37 l0 x20_2).f1), .string ((rd_T37 l0 x20_2).f2), .int .i64 ((rd_T37 l0 x20_2).f3), .slice A139_4 ((rd_T37 l0 x20_2).f4).length c139_4] 37 (0, 0)) q29_ hb); have n3_ := Aside0.mk (below_step q4_ hb); clear HO_6; clear BK140; clear HB; have HO_6 := n0_; have HO144 := n1_; have BK140 := n2_; have HB := n3_; clear n0_ n1_ n2_ n3_; clear hb ho27; have hcz28_0 : w26.cell? ⟨gb140, 0, none⟩ = some (.int .i64 ((rd_T37 l0 x20_2).f0)) := (blk_cell BK140.out 0).trans rfl; have hcz28_1 : w26.cell? ⟨gb140, 1, none⟩ = some (.string ((rd_T37 l0 x20_2).f1)) := (blk_cell BK140.out 1).trans rfl; have hcz28_2 : w26.cell? ⟨gb140, 2, none⟩ = some (.string ((rd_T37 l0 x20_2).f2)) := (blk_cell BK140.out 2).trans rfl; have hcz28_3 : w26.cell? ⟨gb140, 3, none⟩ = some (.int .i64 ((rd_T37 l0 x20_2).f3)) := (blk_cell BK140.out 3).trans rfl; have hcz28_4 : w26.cell? ⟨gb140, 4, none⟩ = some (.slice A139_4 ((rd_T37 l0 x20_2).f4).length c139_4) := (blk_cell BK140.out 4).trans rfl; have hfz28_0 := blk_frozen BK140.out 0; have hfz28_1 := blk_frozen BK140.out 1; have hfz28_2 := blk_frozen BK140.out 2; have hfz28_3 := blk_frozen BK140.out 3; have hfz28_4 := blk_frozen BK140.out 4; obtain ⟨Ao29, co29, eo29⟩ := Kd.R_slice HO144.out; subst eo29) | ((with_reducible refine gate_callee (f := 29) rfl ?_); refine goesL_ (some 34) rfl rfl Tryd.func29 q18_ rfl #[.slice Ao29 y142.length co29, .string ((rd_T37 l0 x20_2).f1)] rfl q1_ ?_; (with_reducible refine (num_PutText.calls _ _ y142 ((rd_T37 l0 x20_2).f1) t145 t146 _ ?side1 ?side2 A18.out).mono ?_); (case side1 => repeat (first | exact (Kd.R_reads' HO144.out).2.2 | (with_reducible refine Kd.C_alloc ?_ _) | (with_reducible refine Kd.C_drewN ?_ _) | (with_reducible refine Kd.C_drew ?_))); (case side2 => exact (Kd.R_reads' HO144.out).2.1); rintro e w30 ⟨v147, rfl, ho0, hb⟩; refine ⟨_, rfl, ?_⟩; have n0_ := Aside0.mk (Kd.R_elder' q5_ (Kd.R_base ho0) hb); have n1_ := Aside0.mk (Kd.R_elder' q25_ (Kd.R_base ho0) hb); have n2_ := Aside0.mk (Kd.R_lower (Kd.R_new' (Kd.R_new' ho0 (Kd.R_lt q5_)) (Kd.R_lt q25_)) (below_size q4_)); have n3_ := Aside0.mk (blk_below (g := gb140) (o := .cells #[.int .i64 ((rd_T37 l0 x20_2).f0), .string ((rd_T37 l0 x20_2).f1), .string ((rd_T37 l0 x20_2).f2), .int .i64 ((rd_T37 l0 x20_2).f3), .slice A139_4 ((rd_T37 l0 x20_2).f4).length c139_4] 37 (0, 0)) q29_ hb); have n4_ := Aside0.mk (below_step q4_ hb); clear HO_6; clear HO144; clear BK140; clear HB; have HO_6 := n0_; have HO144 := n1_; have HO148 := n2_; have BK140 := n3_; have HB := n4_; clear n0_ n1_ n2_ n3_ n4_; (try clear hb); (try clear hb2); (try clear hk); (try clear hi); (try clear ho0); have hcz31_0 : w30.cell? ⟨gb140, 0, none⟩ = some (.int .i64 ((rd_T37 l0 x20_2).f0)) := (blk_cell BK140.out 0).trans rfl; have hcz31_1 : w30.cell? ⟨gb140, 1, none⟩ = some (.string ((rd_T37 l0 x20_2).f1)) := (blk_cell BK140.out 1).trans rfl; have hcz31_2 : w30.cell? ⟨gb140, 2, none⟩ = some (.string ((rd_T37 l0 x20_2).f2)) := (blk_cell BK140.out 2).trans rfl; have hcz31_3 : w30.cell? ⟨gb140, 3, none⟩ = some (.int .i64 ((rd_T37 l0 x20_2).f3)) := (blk_cell BK140.out 3).trans rfl; have hcz31_4 : w30.cell? ⟨gb140, 4, none⟩ = some (.slice A139_4 ((rd_T37 l0 x20_2).f4).length c139_4) := (blk_cell BK140.out 4).trans rfl; have hfz31_0 := blk_frozen BK140.out 0; have hfz31_1 := blk_frozen BK140.out 1; have hfz31_2 := blk_frozen BK140.out 2; have hfz31_3 := blk_frozen BK140.out 3; have hfz31_4 := blk_frozen BK140.out 4; obtain ⟨Ao32, co32, eo32⟩ := Kd.R_slice HO148.out; subst eo32) | ((with_reducible refine gate_callee (f := 29) rfl ?_); refine goesL_ (some 45) rfl rfl Tryd.func29 q18_ rfl #[.slice Ao32 t145.length co32, .string ((rd_T37 l0 x20_2).f2)] rfl q1_ ?_; (with_reducible refine (num_PutText.calls _ _ t145 ((rd_T37 l0 x20_2).f2) t149 t150 _ ?side1 ?side2 A20.out).mono ?_); (case side1 => repeat (first | exact (Kd.R_reads' HO148.out).2.2 | (with_reducible refine Kd.C_alloc ?_ _) | (with_reducible refine Kd.C_drewN ?_ _) | (with_reducible refine Kd.C_drew ?_))); (case side2 => exact (Kd.R_reads' HO148.out).2.1); rintro e w33 ⟨v151, rfl, ho0, hb⟩; refine ⟨_, rfl, ?_⟩; have n0_ := Aside0.mk (Kd.R_elder' q5_ (Kd.R_base ho0) hb); have n1_ := Aside0.mk (Kd.R_elder' q25_ (Kd.R_base ho0) hb); have n2_ := Aside0.mk (Kd.R_elder' q42_ (Kd.R_base ho0) hb); have n3_ := Aside0.mk (Kd.R_lower (Kd.R_new' (Kd.R_new' (Kd.R_new' ho0 (Kd.R_lt q5_)) (Kd.R_lt q25_)) (Kd.R_lt q42_)) (below_size q4_)); have n4_ := Aside0.mk (blk_below (g := gb140) (o := .cells #[.int .i64 ((rd_T37 l0 x20_2).f0), .string ((rd_T37 l0 x20_2).f1), .string ((rd_T37 l0 x20_2).f2), .int .i64 ((rd_T37 l0 x20_2).f3), .slice A139_4 ((rd_T37 l0 x20_2).f4).length c139_4] 37 (0, 0)) q29_ hb); have n5_ := Aside0.mk (below_step q4_ hb); clear HO_6; clear HO144; clear HO148; clear BK140; clear HB; have HO_6 := n0_; have HO144 := n1_; have HO148 := n2_; have HO152 := n3_; have BK140 := n4_; have HB := n5_; clear n0_ n1_ n2_ n3_ n4_ n5_; (try clear hb); (try clear hb2); (try clear hk); (try clear hi); (try clear ho0); obtain ⟨Ao35, co35, eo35⟩ := Kd.R_slice HO152.out; subst eo35) | ((with_reducible refine gate_builtin (b := .append) (xs := #[.tmp 66, .tmp 67]) rfl ?_); at_builtin; refine Kd.R_append_rows (Kd.int .u8) (w0 := w) w.heap.size rfl (.tmp 66) (.tmp 67) 35 5 (.int .u8 0) 1 rfl Tryd.underlying35 info5 rfl q81_ (by omega) u6 x6_2 t149 _ _ _ (fun k_ => some k_ ≠ (.slice Ao29 y142.length co29 : Value).ownBlock ∧ some k_ ≠ (.slice Ao32 t145.length co32 : Value).ownBlock ∧ some k_ ≠ (.slice Ao35 t149.length co35 : Value).ownBlock) (fun _ => False) rfl rfl ?aO ?aR (fun _ _ h => h) (fun _ h => h.elim) ?aF ?aB ?aS ?aL ?_; (case aR => repeat (first | exact (Kd.R_reads' HO152.out).2.2 | (with_reducible refine Kd.C_alloc ?_ _) | (with_reducible refine Kd.C_drewN ?_ _) | (with_reducible refine Kd.C_drew ?_))); (case aB => exact q4_); (case aF => exact (fun k_ hk => ⟨Kd.fresh' (Kd.R_lt q25_) k_ hk, Kd.fresh' (Kd.R_lt q42_) k_ hk, Kd.fresh' (Kd.R_lt (by (with_reducible repeat (first | apply Kd.R_alloc | apply Kd.R_drewN | apply Kd.R_drew)); exact HO152.out)) k_ hk⟩)); (case aO => exact (by (with_reducible repeat (first | apply Kd.R_alloc | apply Kd.R_drewN | apply Kd.R_drew)); exact Kd.R_mono HO_6.out (fun _ hk => ⟨hk.1.1.2, ⟨hk.1.2, hk.2⟩⟩))); (case aS => exact (below_size q4_)); (case aL => have := LMc21.out; omega); intro v154 w34 ho hb hg hat; rw [← Ny153.out] at ho; have n0_ := Aside0.mk (blk_grown (g := gb140) (o := .cells #[.int .i64 ((rd_T37 l0 x20_2).f0), .string ((rd_T37 l0 x20_2).f1), .string ((rd_T37 l0 x20_2).f2), .int .i64 ((rd_T37 l0 x20_2).f3), .slice A139_4 ((rd_T37 l0 x20_2).f4).length c139_4] 37 (0, 0)) q29_ hg (Kd.R_ne HO_6.out BK140.out q81_)); have n1_ := Aside0.mk (Kd.R_after (ok := (fun k_ => some k_ ≠ (.slice Ao32 t145.length co32 : Value).ownBlock ∧ some k_ ≠ (.slice Ao35 t149.length co35 : Value).ownBlock)) (by (with_reducible repeat (first | apply Kd.R_alloc | apply Kd.R_drewN | apply Kd.R_drew)); exact Kd.R_mono HO144.out (fun _ hk => ⟨⟨hk.1.2, hk.2⟩, hk.1.1.2⟩)) hg hat); have n2_ := Aside0.mk (Kd.R_after (ok := (fun k_ => some k_ ≠ (.slice Ao29 y142.length co29 : Value).ownBlock ∧ some k_ ≠ (.slice Ao35 t149.length co35 : Value).ownBlock)) (by (with_reducible repeat (first | apply Kd.R_alloc | apply Kd.R_drewN | apply Kd.R_drew)); exact Kd.R_mono HO148.out (fun _ hk => ⟨⟨hk.1.2, hk.2⟩, hk.1.1.2⟩)) hg hat); have n3_ := Aside0.mk (Kd.R_after (ok := (fun k_ => some k_ ≠ (.slice Ao29 y142.length co29 : Value).ownBlock ∧ some k_ ≠ (.slice Ao32 t145.length co32 : Value).ownBlock)) (by (with_reducible repeat (first | apply Kd.R_alloc | apply Kd.R_drewN | apply Kd.R_drew)); exact Kd.R_mono HO152.out (fun _ hk => ⟨⟨hk.1.2, hk.2⟩, hk.1.1.2⟩)) hg hat); have n4_ := Aside0.mk (hb); have n5_ := Aside0.mk (ho); clear BK140; clear HO144; clear HO148; clear HO152; clear HB; clear HO_6; have BK140 := n0_; have HO144 := n1_; have HO148 := n2_; have HO152 := n3_; have HB := n4_; have HO155 := n5_; clear n0_ n1_ n2_ n3_ n4_ n5_; clear ho hb hg hat))
            go_roundg k2
            case measure => have := HJ3.out; have := HK2.out; omega
            case rel => exact ⟨(y153), (wrap64 (x20_2 + 1)), q3_, H', ⟨by have := HJ3.out; have := HK2.out; omega⟩, ⟨by (with_reducible repeat (first | apply Kd.R_alloc | apply Kd.R_drewN | apply Kd.R_drew)); exact Kd.R_mono HO155.out (fun _ hk => trivial)⟩, ⟨q4_⟩⟩
           ·rw [if_neg c21] at H
            exact absurd H (by simp)
          ·rw [if_neg c19] at H
           have c19b0 : (((rd_T37 l0 x20_2).f0) == 3) = false := beq_eq_false_iff_ne.mpr c19
           have c19b1 : (((rd_T37 l0 x20_2).f0) != 3) = true := bne_iff_ne.mpr c19
           by_cases c36 : ((rd_T37 l0 x20_2).f0) = 5
           ·rw [if_pos c36] at H
            have c36b0 : (((rd_T37 l0 x20_2).f0) == 5) = true := beq_iff_eq.mpr c36
            have c36b1 : (((rd_T37 l0 x20_2).f0) != 5) = false := bne_eq_false_iff_eq.mpr c36
            clear c36
            replace H := Option.bind_eq_some_iff.mp H
            obtain ⟨t156, A370, H⟩ := H
            replace H : (if x6_2.length + t156.length < 140737488355328 then (stream_Put.l0 k2 (x6_2 ++ t156) l0 (l0.length : Int) (wrap64 (x20_2 + 1))) else (none)) = some (r1, r2) := H
            have A37 := Aside0.mk A370
            clear A370
            by_cases c38 : x6_2.length + t156.length < 140737488355328
            ·rw [if_pos c38] at H
             have LMc38 := Aside0.mk c38
             clear c38
             obtain ⟨y159, hy159⟩ : ∃ y_ : List Int, y_ = (x6_2 ++ t156) := ⟨_, rfl⟩
             replace H : (stream_Put.l0 k2 y159 l0 (l0.length : Int) (wrap64 (x20_2 + 1))) = some (r1, r2) := by first | (rw [hy159]; with_reducible exact H) | (have H2_ := (Option.bind_some _ _).symm.trans H; rw [hy159]; with_reducible exact H2_) | (have H2_ := (Option.bind_some _ _).symm.trans H; with_reducible exact H2_) | with_reducible exact H | (rw [hy159]; exact H) | exact H
             have Ny159 := Aside0.mk hy159
             clear hy159
             have H' := Aside0.mk H
             clear H
             have p139 : 0 ≤ (x20_2 : Int) := of_decide_eq_true q7_
             have q139 : x20_2 < (l0.length : Int) := of_decide_eq_true q7_
             obtain ⟨ad139, A139_4, c139_4, e139, hx139_0, hx139_1, hx139_2, hx139_3, hx139_4, hl139_4, hi139_4⟩ := at_T37 HR0.out x20_2 p139 q139
             cases e139
             replace hx139_0 := (HB.out.cell (World.block_lt_of_cell? w _ hx139_0)).trans hx139_0
             replace hx139_1 := (HB.out.cell (World.block_lt_of_cell? w _ hx139_1)).trans hx139_1
             replace hx139_2 := (HB.out.cell (World.block_lt_of_cell? w _ hx139_2)).trans hx139_2
             replace hx139_3 := (HB.out.cell (World.block_lt_of_cell? w _ hx139_3)).trans hx139_3
             replace hx139_4 := (HB.out.cell (World.block_lt_of_cell? w _ hx139_4)).trans hx139_4
             have HR139_4 := Aside0.mk hi139_4
             have HC139_4 := Aside0.mk hl139_4
             clear hi139_4 hl139_4
             replace p139 := eq_true p139
             replace q139 := eq_true q139
             go_wp2_with (first | ((with_reducible refine gate_dst (N := 8) rfl ?_); refine box_event ?hg (N := 8) ?hd (cs := #[.int .i64 0, .string (⟨#[]⟩ : ByteArray), .string (⟨#[]⟩ : ByteArray), .int .i64 0, .slice none 0 0]) (t := 37) ?hr ?_; (case hd => rfl); (case hg => rfl); (case hr => first | (go_simp; done) | (go_simp; rfl)); intro gb140 hg w39 hbox hb; have n0_ := Aside0.mk (Kd.R_below q5_ hb); have n1_ := Aside0.mk (below_step q0_ hb); have n2_ := Aside0.mk (hbox); have n3_ := Aside0.mk ((by rw [hg]; exact (below_size q0_) : w.heap.size ≤ gb140)); have n4_ := Aside0.mk ((by rw [hg]; exact (below_size q0_) : w.heap.size ≤ gb140)); clear HO_6; clear HB; have HO_6 := n0_; have HB := n1_; have BK140 := n2_; have GW140 := n3_; have GE140 := n4_; clear n0_ n1_ n2_ n3_ n4_; clear hb hbox hg; have hcz40_0 : w39.cell? ⟨gb140, 0, none⟩ = some (.int .i64 0) := (blk_cell BK140.out 0).trans rfl; have hcz40_1 : w39.cell? ⟨gb140, 1, none⟩ = some (.string (⟨#[]⟩ : ByteArray)) := (blk_cell BK140.out 1).trans rfl; have hcz40_2 : w39.cell? ⟨gb140, 2, none⟩ = some (.string (⟨#[]⟩ : ByteArray)) := (blk_cell BK140.out 2).trans rfl; have hcz40_3 : w39.cell? ⟨gb140, 3, none⟩ = some (.int .i64 0) := (blk_cell BK140.out 3).trans rfl; have hcz40_4 : w39.cell? ⟨gb140, 4, none⟩ = some (.slice none 0 0) := (blk_cell BK140.out 4).trans rfl; have hfz40_0 := blk_frozen BK140.out 0; have hfz40_1 := blk_frozen BK140.out 1; have hfz40_2 := blk_frozen BK140.out 2; have hfz40_3 := blk_frozen BK140.out 3; have hfz40_4 := blk_frozen BK140.out 4) | ((with_reducible refine gate_callee (f := 17) rfl ?_); refine goesL_ (some 25) rfl rfl Tryd.func17 q18_ rfl #[.agg #[.int .i64 ((rd_T37 l0 x20_2).f0), .string ((rd_T37 l0 x20_2).f1), .string ((rd_T37 l0 x20_2).f2), .int .i64 ((rd_T37 l0 x20_2).f3), .slice A139_4 ((rd_T37 l0 x20_2).f4).length c139_4]] rfl q1_ ?_; (with_reducible refine (stream_Good.calls k2 ((rd_T37 l0 x20_2).f0) ((rd_T37 l0 x20_2).f1) ((rd_T37 l0 x20_2).f2) ((rd_T37 l0 x20_2).f3) _ _ ((rd_T37 l0 x20_2).f4) true _ ?side1 ?side2 A16.out).mono ?_); (case side1 => exact Kd.C_below HR139_4.out q4_); (case side2 => exact HC139_4.out); rintro e w41 ⟨rfl, hb⟩; refine ⟨_, rfl, ?_⟩; have n0_ := Aside0.mk (Kd.R_below q22_ hb); have n1_ := Aside0.mk (blk_below (g := gb140) (o := .cells #[.int .i64 ((rd_T37 l0 x20_2).f0), .string ((rd_T37 l0 x20_2).f1), .string ((rd_T37 l0 x20_2).f2), .int .i64 ((rd_T37 l0 x20_2).f3), .slice A139_4 ((rd_T37 l0 x20_2).f4).length c139_4] 37 (0, 0)) q6_ hb); have n2_ := Aside0.mk (below_step q4_ hb); clear HO_6; clear BK140; clear HB; have HO_6 := n0_; have BK140 := n1_; have HB := n2_; clear n0_ n1_ n2_; (try clear hb); (try clear hb2); (try clear hk); (try clear hi); have hcz42_0 : w41.cell? ⟨gb140, 0, none⟩ = some (.int .i64 ((rd_T37 l0 x20_2).f0)) := (blk_cell BK140.out 0).trans rfl; have hcz42_1 : w41.cell? ⟨gb140, 1, none⟩ = some (.string ((rd_T37 l0 x20_2).f1)) := (blk_cell BK140.out 1).trans rfl; have hcz42_2 : w41.cell? ⟨gb140, 2, none⟩ = some (.string ((rd_T37 l0 x20_2).f2)) := (blk_cell BK140.out 2).trans rfl; have hcz42_3 : w41.cell? ⟨gb140, 3, none⟩ = some (.int .i64 ((rd_T37 l0 x20_2).f3)) := (blk_cell BK140.out 3).trans rfl; have hcz42_4 : w41.cell? ⟨gb140, 4, none⟩ = some (.slice A139_4 ((rd_T37 l0 x20_2).f4).length c139_4) := (blk_cell BK140.out 4).trans rfl; have hfz42_0 := blk_frozen BK140.out 0; have hfz42_1 := blk_frozen BK140.out 1; have hfz42_2 := blk_frozen BK140.out 2; have hfz42_3 := blk_frozen BK140.out 3; have hfz42_4 := blk_frozen BK140.out 4) | ((with_reducible refine gate_dst (N := 31) rfl ?_); refine Kd.R_lit (Kd.int .u8) _ 5 ?hg (N := 31) ?hd (xs := ([((rd_T37 l0 x20_2).f0) % 256] : List Int)) (inner := [.int .u8 (((rd_T37 l0 x20_2).f0) % 256)]) (ok := fun _ => True) (okp := fun _ => True) ?hr ?hp (fun _ hk => hk) trivial (Below.refl _ _) (Nat.le_refl _) (by simp) ?_; (case hd => rfl); (case hg => rfl); (case hr => first | (go_simp; done) | (go_simp; rfl)); (case hp => exact (Reps.one (show Kd.M (Kd.int .u8) _ _ _ (((rd_T37 l0 x20_2).f0) % 256) [.int .u8 (((rd_T37 l0 x20_2).f0) % 256)] from rfl) (Reps.none _ _))); intro v143 w43 ho44 hb hg_ hnew_; clear hg_ hnew_; (first | rw [← Ny142.out] at ho44 | (simp only [Int.reduceToNat] at ho44; rw [← Ny142.out] at ho44)); have n0_ := Aside0.mk (Kd.R_elder' q5_ (Kd.R_base ho44) hb); have n1_ := Aside0.mk (Kd.R_lower (Kd.R_new' ho44 (Kd.R_lt q5_)) (below_size q4_)); have n2_ := Aside0.mk (blk_below (g := gb140) (o := .cells #[.int .i64 ((rd_T37 l0 x20_2).f0), .string ((rd_T37 l0 x20_2).f1), .string ((rd_T37 l0 x20_2).f2), .int .i64 ((rd_T37 l0 x20_2).f3), .slice A139_4 ((rd_T37 l0 x20_2).f4).length c139_4] 37 (0, 0)) q29_ hb); have n3_ := Aside0.mk (below_step q4_ hb); clear HO_6; clear BK140; clear HB; have HO_6 := n0_; have HO144 := n1_; have BK140 := n2_; have HB := n3_; clear n0_ n1_ n2_ n3_; clear hb ho44; have hcz45_0 : w43.cell? ⟨gb140, 0, none⟩ = some (.int .i64 ((rd_T37 l0 x20_2).f0)) := (blk_cell BK140.out 0).trans rfl; have hcz45_1 : w43.cell? ⟨gb140, 1, none⟩ = some (.string ((rd_T37 l0 x20_2).f1)) := (blk_cell BK140.out 1).trans rfl; have hcz45_2 : w43.cell? ⟨gb140, 2, none⟩ = some (.string ((rd_T37 l0 x20_2).f2)) := (blk_cell BK140.out 2).trans rfl; have hcz45_3 : w43.cell? ⟨gb140, 3, none⟩ = some (.int .i64 ((rd_T37 l0 x20_2).f3)) := (blk_cell BK140.out 3).trans rfl; have hcz45_4 : w43.cell? ⟨gb140, 4, none⟩ = some (.slice A139_4 ((rd_T37 l0 x20_2).f4).length c139_4) := (blk_cell BK140.out 4).trans rfl; have hfz45_0 := blk_frozen BK140.out 0; have hfz45_1 := blk_frozen BK140.out 1; have hfz45_2 := blk_frozen BK140.out 2; have hfz45_3 := blk_frozen BK140.out 3; have hfz45_4 := blk_frozen BK140.out 4; obtain ⟨Ao46, co46, eo46⟩ := Kd.R_slice HO144.out; subst eo46) | ((with_reducible refine gate_callee (f := 29) rfl ?_); refine goesL_ (some 34) rfl rfl Tryd.func29 q18_ rfl #[.slice Ao46 y142.length co46, .string ((rd_T37 l0 x20_2).f1)] rfl q1_ ?_; (with_reducible refine (num_PutText.calls _ _ y142 ((rd_T37 l0 x20_2).f1) t145 t146 _ ?side1 ?side2 A18.out).mono ?_); (case side1 => repeat (first | exact (Kd.R_reads' HO144.out).2.2 | (with_reducible refine Kd.C_alloc ?_ _) | (with_reducible refine Kd.C_drewN ?_ _) | (with_reducible refine Kd.C_drew ?_))); (case side2 => exact (Kd.R_reads' HO144.out).2.1); rintro e w47 ⟨v147, rfl, ho0, hb⟩; refine ⟨_, rfl, ?_⟩; have n0_ := Aside0.mk (Kd.R_elder' q5_ (Kd.R_base ho0) hb); have n1_ := Aside0.mk (Kd.R_elder' q25_ (Kd.R_base ho0) hb); have n2_ := Aside0.mk (Kd.R_lower (Kd.R_new' (Kd.R_new' ho0 (Kd.R_lt q5_)) (Kd.R_lt q25_)) (below_size q4_)); have n3_ := Aside0.mk (blk_below (g := gb140) (o := .cells #[.int .i64 ((rd_T37 l0 x20_2).f0), .string ((rd_T37 l0 x20_2).f1), .string ((rd_T37 l0 x20_2).f2), .int .i64 ((rd_T37 l0 x20_2).f3), .slice A139_4 ((rd_T37 l0 x20_2).f4).length c139_4] 37 (0, 0)) q29_ hb); have n4_ := Aside0.mk (below_step q4_ hb); clear HO_6; clear HO144; clear BK140; clear HB; have HO_6 := n0_; have HO144 := n1_; have HO148 := n2_; have BK140 := n3_; have HB := n4_; clear n0_ n1_ n2_ n3_ n4_; (try clear hb); (try clear hb2); (try clear hk); (try clear hi); (try clear ho0); have hcz48_0 : w47.cell? ⟨gb140, 0, none⟩ = some (.int .i64 ((rd_T37 l0 x20_2).f0)) := (blk_cell BK140.out 0).trans rfl; have hcz48_1 : w47.cell? ⟨gb140, 1, none⟩ = some (.string ((rd_T37 l0 x20_2).f1)) := (blk_cell BK140.out 1).trans rfl; have hcz48_2 : w47.cell? ⟨gb140, 2, none⟩ = some (.string ((rd_T37 l0 x20_2).f2)) := (blk_cell BK140.out 2).trans rfl; have hcz48_3 : w47.cell? ⟨gb140, 3, none⟩ = some (.int .i64 ((rd_T37 l0 x20_2).f3)) := (blk_cell BK140.out 3).trans rfl; have hcz48_4 : w47.cell? ⟨gb140, 4, none⟩ = some (.slice A139_4 ((rd_T37 l0 x20_2).f4).length c139_4) := (blk_cell BK140.out 4).trans rfl; have hfz48_0 := blk_frozen BK140.out 0; have hfz48_1 := blk_frozen BK140.out 1; have hfz48_2 := blk_frozen BK140.out 2; have hfz48_3 := blk_frozen BK140.out 3; have hfz48_4 := blk_frozen BK140.out 4; obtain ⟨Ao49, co49, eo49⟩ := Kd.R_slice HO148.out; subst eo49) | ((with_reducible refine gate_callee (f := 30) rfl ?_); refine goesL_ (some 53) rfl rfl Tryd.func30 q18_ rfl #[.slice Ao49 t145.length co49, .int .i64 ((rd_T37 l0 x20_2).f3), .int .i64 4] rfl q1_ ?_; (with_reducible refine (num_Put.calls _ _ t145 ((rd_T37 l0 x20_2).f3) 4 t156 _ ?side1 ?side2 A37.out).mono ?_); (case side1 => repeat (first | exact (Kd.R_reads' HO148.out).2.2 | (with_reducible refine Kd.C_alloc ?_ _) | (with_reducible refine Kd.C_drewN ?_ _) | (with_reducible refine Kd.C_drew ?_))); (case side2 => exact (Kd.R_reads' HO148.out).2.1); rintro e w50 ⟨v157, rfl, ho0, hb⟩; refine ⟨_, rfl, ?_⟩; have n0_ := Aside0.mk (Kd.R_elder' q5_ (Kd.R_base ho0) hb); have n1_ := Aside0.mk (Kd.R_elder' q25_ (Kd.R_base ho0) hb); have n2_ := Aside0.mk (Kd.R_elder' q42_ (Kd.R_base ho0) hb); have n3_ := Aside0.mk (Kd.R_lower (Kd.R_new' (Kd.R_new' (Kd.R_new' ho0 (Kd.R_lt q5_)) (Kd.R_lt q25_)) (Kd.R_lt q42_)) (below_size q4_)); have n4_ := Aside0.mk (blk_below (g := gb140) (o := .cells #[.int .i64 ((rd_T37 l0 x20_2).f0), .string ((rd_T37 l0 x20_2).f1), .string ((rd_T37 l0 x20_2).f2), .int .i64 ((rd_T37 l0 x20_2).f3), .slice A139_4 ((rd_T37 l0 x20_2).f4).length c139_4] 37 (0, 0)) q29_ hb); have n5_ := Aside0.mk (below_step q4_ hb); clear HO_6; clear HO144; clear HO148; clear BK140; clear HB; have HO_6 := n0_; have HO144 := n1_; have HO148 := n2_; have HO158 := n3_; have BK140 := n4_; have HB := n5_; clear n0_ n1_ n2_ n3_ n4_ n5_; (try clear hb); (try clear hb2); (try clear hk); (try clear hi); (try clear ho0); obtain ⟨Ao52, co52, eo52⟩ := Kd.R_slice HO158.out; subst eo52) | ((with_reducible refine gate_builtin (b := .append) (xs := #[.tmp 66, .tmp 67]) rfl ?_); at_builtin; refine Kd.R_append_rows (Kd.int .u8) (w0 := w) w.heap.size rfl (.tmp 66) (.tmp 67) 35 5 (.int .u8 0) 1 rfl Tryd.underlying35 info5 rfl q81_ (by omega) u6 x6_2 t156 _ _ _ (fun k_ => some k_ ≠ (.slice Ao46 y142.length co46 : Value).ownBlock ∧ some k_ ≠ (.slice Ao49 t145.length co49 : Value).ownBlock ∧ some k_ ≠ (.slice Ao52 t156.length co52 : Value).ownBlock) (fun _ => False) rfl rfl ?aO ?aR (fun _ _ h => h) (fun _ h => h.elim) ?aF ?aB ?aS ?aL ?_; (case aR => repeat (first | exact (Kd.R_reads' HO158.out).2.2 | (with_reducible refine Kd.C_alloc ?_ _) | (with_reducible refine Kd.C_drewN ?_ _) | (with_reducible refine Kd.C_drew ?_))); (case aB => exact q4_); (case aF => exact (fun k_ hk => ⟨Kd.fresh' (Kd.R_lt q25_) k_ hk, Kd.fresh' (Kd.R_lt q42_) k_ hk, Kd.fresh' (Kd.R_lt (by (with_reducible repeat (first | apply Kd.R_alloc | apply Kd.R_drewN | apply Kd.R_drew)); exact HO158.out)) k_ hk⟩)); (case aO => exact (by (with_reducible repeat (first | apply Kd.R_alloc | apply Kd.R_drewN | apply Kd.R_drew)); exact Kd.R_mono HO_6.out (fun _ hk => ⟨hk.1.1.2, ⟨hk.1.2, hk.2⟩⟩))); (case aS => exact (below_size q4_)); (case aL => have := LMc38.out; omega); intro v160 w51 ho hb hg hat; rw [← Ny159.out] at ho; have n0_ := Aside0.mk (blk_grown (g := gb140) (o := .cells #[.int .i64 ((rd_T37 l0 x20_2).f0), .string ((rd_T37 l0 x20_2).f1), .string ((rd_T37 l0 x20_2).f2), .int .i64 ((rd_T37 l0 x20_2).f3), .slice A139_4 ((rd_T37 l0 x20_2).f4).length c139_4] 37 (0, 0)) q29_ hg (Kd.R_ne HO_6.out BK140.out q81_)); have n1_ := Aside0.mk (Kd.R_after (ok := (fun k_ => some k_ ≠ (.slice Ao49 t145.length co49 : Value).ownBlock ∧ some k_ ≠ (.slice Ao52 t156.length co52 : Value).ownBlock)) (by (with_reducible repeat (first | apply Kd.R_alloc | apply Kd.R_drewN | apply Kd.R_drew)); exact Kd.R_mono HO144.out (fun _ hk => ⟨⟨hk.1.2, hk.2⟩, hk.1.1.2⟩)) hg hat); have n2_ := Aside0.mk (Kd.R_after (ok := (fun k_ => some k_ ≠ (.slice Ao46 y142.length co46 : Value).ownBlock ∧ some k_ ≠ (.slice Ao52 t156.length co52 : Value).ownBlock)) (by (with_reducible repeat (first | apply Kd.R_alloc | apply Kd.R_drewN | apply Kd.R_drew)); exact Kd.R_mono HO148.out (fun _ hk => ⟨⟨hk.1.2, hk.2⟩, hk.1.1.2⟩)) hg hat); have n3_ := Aside0.mk (Kd.R_after (ok := (fun k_ => some k_ ≠ (.slice Ao46 y142.length co46 : Value).ownBlock ∧ some k_ ≠ (.slice Ao49 t145.length co49 : Value).ownBlock)) (by (with_reducible repeat (first | apply Kd.R_alloc | apply Kd.R_drewN | apply Kd.R_drew)); exact Kd.R_mono HO158.out (fun _ hk => ⟨⟨hk.1.2, hk.2⟩, hk.1.1.2⟩)) hg hat); have n4_ := Aside0.mk (hb); have n5_ := Aside0.mk (ho); clear BK140; clear HO144; clear HO148; clear HO158; clear HB; clear HO_6; have BK140 := n0_; have HO144 := n1_; have HO148 := n2_; have HO158 := n3_; have HB := n4_; have HO161 := n5_; clear n0_ n1_ n2_ n3_ n4_ n5_; clear ho hb hg hat))
             go_roundg k2
             case measure => have := HJ3.out; have := HK2.out; omega
             case rel => exact ⟨(y159), (wrap64 (x20_2 + 1)), q3_, H', ⟨by have := HJ3.out; have := HK2.out; omega⟩, ⟨by (with_reducible repeat (first | apply Kd.R_alloc | apply Kd.R_drewN | apply Kd.R_drew)); exact Kd.R_mono HO161.out (fun _ hk => trivial)⟩, ⟨q4_⟩⟩
            ·rw [if_neg c38] at H
             exact absurd H (by simp)
           ·rw [if_neg c36] at H
            have c36b0 : (((rd_T37 l0 x20_2).f0) == 5) = false := beq_eq_false_iff_ne.mpr c36
            have c36b1 : (((rd_T37 l0 x20_2).f0) != 5) = true := bne_iff_ne.mpr c36
            by_cases c53 : ((rd_T37 l0 x20_2).f0) = 4
            ·rw [if_pos c53] at H
             have c53b0 : (((rd_T37 l0 x20_2).f0) == 4) = true := beq_iff_eq.mpr c53
             have c53b1 : (((rd_T37 l0 x20_2).f0) != 4) = false := bne_eq_false_iff_eq.mpr c53
             clear c53
             replace H := Option.bind_eq_some_iff.mp H
             obtain ⟨t162, A540, H⟩ := H
             replace H : ((num_PutBytes.f t162 ((rd_T37 l0 x20_2).f4)).bind fun bt165 => (if x6_2.length + bt165.1.length < 140737488355328 then (stream_Put.l0 k2 (x6_2 ++ bt165.1) l0 (l0.length : Int) (wrap64 (x20_2 + 1))) else (none))) = some (r1, r2) := H
             have A54 := Aside0.mk A540
             clear A540
             replace H := Option.bind_eq_some_iff.mp H
             obtain ⟨⟨t165, t166⟩, A550, H⟩ := H
             replace H : (if x6_2.length + t165.length < 140737488355328 then (stream_Put.l0 k2 (x6_2 ++ t165) l0 (l0.length : Int) (wrap64 (x20_2 + 1))) else (none)) = some (r1, r2) := H
             have A55 := Aside0.mk A550
             clear A550
             by_cases c56 : x6_2.length + t165.length < 140737488355328
             ·rw [if_pos c56] at H
              have LMc56 := Aside0.mk c56
              clear c56
              obtain ⟨y169, hy169⟩ : ∃ y_ : List Int, y_ = (x6_2 ++ t165) := ⟨_, rfl⟩
              replace H : (stream_Put.l0 k2 y169 l0 (l0.length : Int) (wrap64 (x20_2 + 1))) = some (r1, r2) := by first | (rw [hy169]; with_reducible exact H) | (have H2_ := (Option.bind_some _ _).symm.trans H; rw [hy169]; with_reducible exact H2_) | (have H2_ := (Option.bind_some _ _).symm.trans H; with_reducible exact H2_) | with_reducible exact H | (rw [hy169]; exact H) | exact H
              have Ny169 := Aside0.mk hy169
              clear hy169
              have H' := Aside0.mk H
              clear H
              have p139 : 0 ≤ (x20_2 : Int) := of_decide_eq_true q7_
              have q139 : x20_2 < (l0.length : Int) := of_decide_eq_true q7_
              obtain ⟨ad139, A139_4, c139_4, e139, hx139_0, hx139_1, hx139_2, hx139_3, hx139_4, hl139_4, hi139_4⟩ := at_T37 HR0.out x20_2 p139 q139
              cases e139
              replace hx139_0 := (HB.out.cell (World.block_lt_of_cell? w _ hx139_0)).trans hx139_0
              replace hx139_1 := (HB.out.cell (World.block_lt_of_cell? w _ hx139_1)).trans hx139_1
              replace hx139_2 := (HB.out.cell (World.block_lt_of_cell? w _ hx139_2)).trans hx139_2
              replace hx139_3 := (HB.out.cell (World.block_lt_of_cell? w _ hx139_3)).trans hx139_3
              replace hx139_4 := (HB.out.cell (World.block_lt_of_cell? w _ hx139_4)).trans hx139_4
              have HR139_4 := Aside0.mk hi139_4
              have HC139_4 := Aside0.mk hl139_4
              clear hi139_4 hl139_4
              replace p139 := eq_true p139
              replace q139 := eq_true q139
              try go_wp2_with (first | ((with_reducible refine gate_dst (N := 8) rfl ?_); refine box_event ?hg (N := 8) ?hd (cs := #[.int .i64 0, .string (⟨#[]⟩ : ByteArray), .string (⟨#[]⟩ : ByteArray), .int .i64 0, .slice none 0 0]) (t := 37) ?hr ?_; (case hd => rfl); (case hg => rfl); (case hr => first | (go_simp; done) | (go_simp; rfl)); intro gb140 hg w57 hbox hb; have n0_ := Aside0.mk (Kd.R_below q5_ hb); have n1_ := Aside0.mk (below_step q0_ hb); have n2_ := Aside0.mk (hbox); have n3_ := Aside0.mk ((by rw [hg]; exact (below_size q0_) : w.heap.size ≤ gb140)); have n4_ := Aside0.mk ((by rw [hg]; exact (below_size q0_) : w.heap.size ≤ gb140)); clear HO_6; clear HB; have HO_6 := n0_; have HB := n1_; have BK140 := n2_; have GW140 := n3_; have GE140 := n4_; clear n0_ n1_ n2_ n3_ n4_; clear hb hbox hg; have hcz58_0 : w57.cell? ⟨gb140, 0, none⟩ = some (.int .i64 0) := (blk_cell BK140.out 0).trans rfl; have hcz58_1 : w57.cell? ⟨gb140, 1, none⟩ = some (.string (⟨#[]⟩ : ByteArray)) := (blk_cell BK140.out 1).trans rfl; have hcz58_2 : w57.cell? ⟨gb140, 2, none⟩ = some (.string (⟨#[]⟩ : ByteArray)) := (blk_cell BK140.out 2).trans rfl; have hcz58_3 : w57.cell? ⟨gb140, 3, none⟩ = some (.int .i64 0) := (blk_cell BK140.out 3).trans rfl; have hcz58_4 : w57.cell? ⟨gb140, 4, none⟩ = some (.slice none 0 0) := (blk_cell BK140.out 4).trans rfl; have hfz58_0 := blk_frozen BK140.out 0; have hfz58_1 := blk_frozen BK140.out 1; have hfz58_2 := blk_frozen BK140.out 2; have hfz58_3 := blk_frozen BK140.out 3; have hfz58_4 := blk_frozen BK140.out 4) | ((with_reducible refine gate_callee (f := 17) rfl ?_); refine goesL_ (some 25) rfl rfl Tryd.func17 q18_ rfl #[.agg #[.int .i64 ((rd_T37 l0 x20_2).f0), .string ((rd_T37 l0 x20_2).f1), .string ((rd_T37 l0 x20_2).f2), .int .i64 ((rd_T37 l0 x20_2).f3), .slice A139_4 ((rd_T37 l0 x20_2).f4).length c139_4]] rfl q1_ ?_; (with_reducible refine (stream_Good.calls k2 ((rd_T37 l0 x20_2).f0) ((rd_T37 l0 x20_2).f1) ((rd_T37 l0 x20_2).f2) ((rd_T37 l0 x20_2).f3) _ _ ((rd_T37 l0 x20_2).f4) true _ ?side1 ?side2 A16.out).mono ?_); (case side1 => exact Kd.C_below HR139_4.out q4_); (case side2 => exact HC139_4.out); rintro e w59 ⟨rfl, hb⟩; refine ⟨_, rfl, ?_⟩; have n0_ := Aside0.mk (Kd.R_below q22_ hb); have n1_ := Aside0.mk (blk_below (g := gb140) (o := .cells #[.int .i64 ((rd_T37 l0 x20_2).f0), .string ((rd_T37 l0 x20_2).f1), .string ((rd_T37 l0 x20_2).f2), .int .i64 ((rd_T37 l0 x20_2).f3), .slice A139_4 ((rd_T37 l0 x20_2).f4).length c139_4] 37 (0, 0)) q6_ hb); have n2_ := Aside0.mk (below_step q4_ hb); clear HO_6; clear BK140; clear HB; have HO_6 := n0_; have BK140 := n1_; have HB := n2_; clear n0_ n1_ n2_; (try clear hb); (try clear hb2); (try clear hk); (try clear hi); have hcz60_0 : w59.cell? ⟨gb140, 0, none⟩ = some (.int .i64 ((rd_T37 l0 x20_2).f0)) := (blk_cell BK140.out 0).trans rfl; have hcz60_1 : w59.cell? ⟨gb140, 1, none⟩ = some (.string ((rd_T37 l0 x20_2).f1)) := (blk_cell BK140.out 1).trans rfl; have hcz60_2 : w59.cell? ⟨gb140, 2, none⟩ = some (.string ((rd_T37 l0 x20_2).f2)) := (blk_cell BK140.out 2).trans rfl; have hcz60_3 : w59.cell? ⟨gb140, 3, none⟩ = some (.int .i64 ((rd_T37 l0 x20_2).f3)) := (blk_cell BK140.out 3).trans rfl; have hcz60_4 : w59.cell? ⟨gb140, 4, none⟩ = some (.slice A139_4 ((rd_T37 l0 x20_2).f4).length c139_4) := (blk_cell BK140.out 4).trans rfl; have hfz60_0 := blk_frozen BK140.out 0; have hfz60_1 := blk_frozen BK140.out 1; have hfz60_2 := blk_frozen BK140.out 2; have hfz60_3 := blk_frozen BK140.out 3; have hfz60_4 := blk_frozen BK140.out 4) | ((with_reducible refine gate_dst (N := 31) rfl ?_); refine Kd.R_lit (Kd.int .u8) _ 5 ?hg (N := 31) ?hd (xs := ([((rd_T37 l0 x20_2).f0) % 256] : List Int)) (inner := [.int .u8 (((rd_T37 l0 x20_2).f0) % 256)]) (ok := fun _ => True) (okp := fun _ => True) ?hr ?hp (fun _ hk => hk) trivial (Below.refl _ _) (Nat.le_refl _) (by simp) ?_; (case hd => rfl); (case hg => rfl); (case hr => first | (go_simp; done) | (go_simp; rfl)); (case hp => exact (Reps.one (show Kd.M (Kd.int .u8) _ _ _ (((rd_T37 l0 x20_2).f0) % 256) [.int .u8 (((rd_T37 l0 x20_2).f0) % 256)] from rfl) (Reps.none _ _))); intro v143 w61 ho62 hb hg_ hnew_; clear hg_ hnew_; (first | rw [← Ny142.out] at ho62 | (simp only [Int.reduceToNat] at ho62; rw [← Ny142.out] at ho62)); have n0_ := Aside0.mk (Kd.R_elder' q5_ (Kd.R_base ho62) hb); have n1_ := Aside0.mk (Kd.R_lower (Kd.R_new' ho62 (Kd.R_lt q5_)) (below_size q4_)); have n2_ := Aside0.mk (blk_below (g := gb140) (o := .cells #[.int .i64 ((rd_T37 l0 x20_2).f0), .string ((rd_T37 l0 x20_2).f1), .string ((rd_T37 l0 x20_2).f2), .int .i64 ((rd_T37 l0 x20_2).f3), .slice A139_4 ((rd_T37 l0 x20_2).f4).length c139_4] 37 (0, 0)) q29_ hb); have n3_ := Aside0.mk (below_step q4_ hb); clear HO_6; clear BK140; clear HB; have HO_6 := n0_; have HO144 := n1_; have BK140 := n2_; have HB := n3_; clear n0_ n1_ n2_ n3_; clear hb ho62; have hcz63_0 : w61.cell? ⟨gb140, 0, none⟩ = some (.int .i64 ((rd_T37 l0 x20_2).f0)) := (blk_cell BK140.out 0).trans rfl; have hcz63_1 : w61.cell? ⟨gb140, 1, none⟩ = some (.string ((rd_T37 l0 x20_2).f1)) := (blk_cell BK140.out 1).trans rfl; have hcz63_2 : w61.cell? ⟨gb140, 2, none⟩ = some (.string ((rd_T37 l0 x20_2).f2)) := (blk_cell BK140.out 2).trans rfl; have hcz63_3 : w61.cell? ⟨gb140, 3, none⟩ = some (.int .i64 ((rd_T37 l0 x20_2).f3)) := (blk_cell BK140.out 3).trans rfl; have hcz63_4 : w61.cell? ⟨gb140, 4, none⟩ = some (.slice A139_4 ((rd_T37 l0 x20_2).f4).length c139_4) := (blk_cell BK140.out 4).trans rfl; have hfz63_0 := blk_frozen BK140.out 0; have hfz63_1 := blk_frozen BK140.out 1; have hfz63_2 := blk_frozen BK140.out 2; have hfz63_3 := blk_frozen BK140.out 3; have hfz63_4 := blk_frozen BK140.out 4; obtain ⟨Ao64, co64, eo64⟩ := Kd.R_slice HO144.out; subst eo64) | ((with_reducible refine gate_callee (f := 29) rfl ?_); refine goesL_ (some 34) rfl rfl Tryd.func29 q18_ rfl #[.slice Ao64 y142.length co64, .string ((rd_T37 l0 x20_2).f1)] rfl q1_ ?_; (with_reducible refine (num_PutText.calls _ _ y142 ((rd_T37 l0 x20_2).f1) t145 t146 _ ?side1 ?side2 A18.out).mono ?_); (case side1 => repeat (first | exact (Kd.R_reads' HO144.out).2.2 | (with_reducible refine Kd.C_alloc ?_ _) | (with_reducible refine Kd.C_drewN ?_ _) | (with_reducible refine Kd.C_drew ?_))); (case side2 => exact (Kd.R_reads' HO144.out).2.1); rintro e w65 ⟨v147, rfl, ho0, hb⟩; refine ⟨_, rfl, ?_⟩; have n0_ := Aside0.mk (Kd.R_elder' q5_ (Kd.R_base ho0) hb); have n1_ := Aside0.mk (Kd.R_elder' q25_ (Kd.R_base ho0) hb); have n2_ := Aside0.mk (Kd.R_lower (Kd.R_new' (Kd.R_new' ho0 (Kd.R_lt q5_)) (Kd.R_lt q25_)) (below_size q4_)); have n3_ := Aside0.mk (blk_below (g := gb140) (o := .cells #[.int .i64 ((rd_T37 l0 x20_2).f0), .string ((rd_T37 l0 x20_2).f1), .string ((rd_T37 l0 x20_2).f2), .int .i64 ((rd_T37 l0 x20_2).f3), .slice A139_4 ((rd_T37 l0 x20_2).f4).length c139_4] 37 (0, 0)) q29_ hb); have n4_ := Aside0.mk (below_step q4_ hb); clear HO_6; clear HO144; clear BK140; clear HB; have HO_6 := n0_; have HO144 := n1_; have HO148 := n2_; have BK140 := n3_; have HB := n4_; clear n0_ n1_ n2_ n3_ n4_; (try clear hb); (try clear hb2); (try clear hk); (try clear hi); (try clear ho0); have hcz66_0 : w65.cell? ⟨gb140, 0, none⟩ = some (.int .i64 ((rd_T37 l0 x20_2).f0)) := (blk_cell BK140.out 0).trans rfl; have hcz66_1 : w65.cell? ⟨gb140, 1, none⟩ = some (.string ((rd_T37 l0 x20_2).f1)) := (blk_cell BK140.out 1).trans rfl; have hcz66_2 : w65.cell? ⟨gb140, 2, none⟩ = some (.string ((rd_T37 l0 x20_2).f2)) := (blk_cell BK140.out 2).trans rfl; have hcz66_3 : w65.cell? ⟨gb140, 3, none⟩ = some (.int .i64 ((rd_T37 l0 x20_2).f3)) := (blk_cell BK140.out 3).trans rfl; have hcz66_4 : w65.cell? ⟨gb140, 4, none⟩ = some (.slice A139_4 ((rd_T37 l0 x20_2).f4).length c139_4) := (blk_cell BK140.out 4).trans rfl; have hfz66_0 := blk_frozen BK140.out 0; have hfz66_1 := blk_frozen BK140.out 1; have hfz66_2 := blk_frozen BK140.out 2; have hfz66_3 := blk_frozen BK140.out 3; have hfz66_4 := blk_frozen BK140.out 4))
              have n0_ := Aside0.mk (Kd.R_drew HO_6.out)
              have n1_ := Aside0.mk (Kd.R_drew HO144.out)
              have n2_ := Aside0.mk (Kd.R_drew HO148.out)
              have n3_ := Aside0.mk (blk_drew BK140.out)
              have n4_ := Aside0.mk (below_drew1 HB.out)
              clear HO_6
              clear HO144
              clear HO148
              clear BK140
              clear HB
              have HO_6 := n0_
              have HO144 := n1_
              have HO148 := n2_
              have BK140 := n3_
              have HB := n4_
              clear n0_ n1_ n2_ n3_ n4_
              obtain ⟨Ao68, co68, eo68⟩ := Kd.R_slice HO148.out
              (first | subst eo68 | (injection eo68 with f1_ f2_ f3_; have f4_ := f1_.symm; have f5_ := f3_.symm; clear f1_ f2_ f3_; subst f4_; subst f5_))
              refine start_ (n := 11) (S := fun w' => w'.cell? ⟨gb140, 0, none⟩ = some (.int .i64 ((rd_T37 l0 x20_2).f0)) ∧ w'.cell? ⟨gb140, 1, none⟩ = some (.string ((rd_T37 l0 x20_2).f1)) ∧ w'.cell? ⟨gb140, 2, none⟩ = some (.string ((rd_T37 l0 x20_2).f2)) ∧ w'.cell? ⟨gb140, 3, none⟩ = some (.int .i64 ((rd_T37 l0 x20_2).f3)) ∧ w'.cell? ⟨gb140, 4, none⟩ = some (.slice A139_4 ((rd_T37 l0 x20_2).f4).length c139_4)) (ds := []) (bl_ 11 0) q18_ rfl rfl ⟨(blk_cell BK140.out 0).trans rfl, (blk_cell BK140.out 1).trans rfl, (blk_cell BK140.out 2).trans rfl, (blk_cell BK140.out 3).trans rfl, (blk_cell BK140.out 4).trans rfl⟩ (fun hHeld => ?_); refine with_tabW stream_Put.tab16 stream_Put.bits16 (fun HT_ HW_ => ?_)
              generalize w65.drew = w67 at HO_6 HO144 HO148 BK140 HB hHeld ⊢
              refine pure_ (i := 0) (N := some 57) (v := ?_) (a' := ?_) (bl_ 11 1) rfl rfl (any_of HT_.out q18_) (fun _ _ _ h => h) (Or.inl ⟨by rfl, ?_⟩) ?_ ?_
              rotate_left
              ·intro w'
               go_simp
               with_reducible rfl
              rotate_left
              ·simp only [Act.put, List.setIfInBounds_toArray, List.set_cons_zero, List.set_cons_succ, i64_w, i32_w]
               rfl
              refine pure_ (i := 1) (N := some 58) (v := ?_) (a' := ?_) (bl_ 11 3) rfl rfl (any_of HT_.out q18_) (fun _ _ _ h => h) (Or.inl ⟨by rfl, ?_⟩) ?_ ?_
              rotate_left
              ·intro w'
               go_simp
               with_reducible rfl
              rotate_left
              ·simp only [Act.put, List.setIfInBounds_toArray, List.set_cons_zero, List.set_cons_succ, i64_w, i32_w]
               rfl
              refine pure_ (i := 4) (N := some 61) (v := ?_) (a' := ?_) (bl_ 11 19) rfl rfl (any_of HT_.out q18_) (fun _ _ _ h => h) (Or.inl ⟨by rfl, ?_⟩) ?_ ?_
              rotate_left
              ·intro w'
               go_simp
               with_reducible rfl
              rotate_left
              ·simp only [Act.put, List.setIfInBounds_toArray, List.set_cons_zero, List.set_cons_succ, i64_w, i32_w]
               rfl
              refine take_ (i := 2) (N := some 59) (v := ?_) (a' := ?_) (bl_ 11 23) rfl rfl (take_ofW HT_.out HW_.out q18_) (fun _ _ _ h => h) (Or.inl ⟨by rfl, ?_⟩) hHeld ?_ ?_
              rotate_left
              ·rintro w' ⟨s0, s1, s2, s3, s4⟩
               go_simp
               with_reducible rfl
              rotate_left
              ·simp only [Act.put, List.setIfInBounds_toArray, List.set_cons_zero, List.set_cons_succ, i64_w, i32_w]
               rfl
              refine take_ (i := 5) (N := some 62) (v := ?_) (a' := ?_) (bl_ 11 55) rfl rfl (take_ofW HT_.out HW_.out q18_) (fun _ _ _ h => h) (Or.inl ⟨by rfl, ?_⟩) hHeld ?_ ?_
              rotate_left
              ·rintro w' ⟨s0, s1, s2, s3, s4⟩
               go_simp
               with_reducible rfl
              rotate_left
              ·simp only [Act.put, List.setIfInBounds_toArray, List.set_cons_zero, List.set_cons_succ, i64_w, i32_w]
               rfl
              refine one_ (i := 3) (N := some 60) (bl_ 11 63) rfl rfl (one_of HT_.out q18_) q81_ (fun K hK => ?_)
              refine goes_ Tryd.func30 q18_ rfl #[.slice Ao68 t145.length co68, .int .i64 ((rd_T37 l0 x20_2).f3), .int .i64 4] (by rfl) rfl rfl q1_ ?_
              with_reducible refine (num_Put.calls _ _ t145 ((rd_T37 l0 x20_2).f3) 4 t162 _ ?side1 ?side2 A54.out).mono ?_
              (case side1 => repeat (first | exact (Kd.R_reads' HO148.out).2.2 | (with_reducible refine Kd.C_alloc ?_ _) | (with_reducible refine Kd.C_drewN ?_ _) | (with_reducible refine Kd.C_drew ?_)))
              (case side2 => exact (Kd.R_reads' HO148.out).2.1)
              rintro e w69 ⟨v163, rfl, ho0, hb⟩
              refine ⟨_, rfl, ?_⟩
              have n0_ := Aside0.mk (Kd.R_elder' q5_ (Kd.R_base ho0) hb)
              have n1_ := Aside0.mk (Kd.R_elder' q25_ (Kd.R_base ho0) hb)
              have n2_ := Aside0.mk (Kd.R_elder' q42_ (Kd.R_base ho0) hb)
              have n3_ := Aside0.mk (Kd.R_lower (Kd.R_new' (Kd.R_new' (Kd.R_new' ho0 (Kd.R_lt q5_)) (Kd.R_lt q25_)) (Kd.R_lt q42_)) (below_size q4_))
              have n4_ := Aside0.mk (blk_below (g := gb140) (o := .cells #[.int .i64 ((rd_T37 l0 x20_2).f0), .string ((rd_T37 l0 x20_2).f1), .string ((rd_T37 l0 x20_2).f2), .int .i64 ((rd_T37 l0 x20_2).f3), .slice A139_4 ((rd_T37 l0 x20_2).f4).length c139_4] 37 (0, 0)) q29_ hb)
              have n5_ := Aside0.mk (below_step q4_ hb)
              clear HO_6
              clear HO144
              clear HO148
              clear BK140
              clear HB
              have HO_6 := n0_
              have HO144 := n1_
              have HO148 := n2_
              have HO164 := n3_
              have BK140 := n4_
              have HB := n5_
              clear n0_ n1_ n2_ n3_ n4_ n5_
              (try clear hb)
              (try clear hb2)
              (try clear hk)
              (try clear hi)
              (try clear ho0)
              obtain ⟨Ao70, co70, eo70⟩ := Kd.R_slice HO164.out
              (first | subst eo70 | (injection eo70 with f1_ f2_ f3_; have f4_ := f1_.symm; have f5_ := f3_.symm; clear f1_ f2_ f3_; subst f4_; subst f5_))
              refine hK.out _ _ ⟨(blk_cell BK140.out 0).trans rfl, (blk_cell BK140.out 1).trans rfl, (blk_cell BK140.out 2).trans rfl, (blk_cell BK140.out 3).trans rfl, (blk_cell BK140.out 4).trans rfl⟩ (fun hHeld => ?_)
              clear hK K
              refine norm_ (a' := ?_) ?_ ?_
              rotate_left
              ·show Act.put _ (some 60) _ = _
               simp only [Act.put, List.setIfInBounds_toArray, List.set_cons_zero, List.set_cons_succ, i64_w, i32_w]
               rfl
              refine one_ (i := 6) (N := some 63) (bl_ 11 127) rfl rfl (one_of HT_.out q18_) q81_ (fun K hK => ?_)
              refine goes_ Tryd.func31 q18_ rfl #[.slice Ao70 t162.length co70, .slice A139_4 ((rd_T37 l0 x20_2).f4).length c139_4] (by rfl) rfl rfl q1_ ?_
              with_reducible refine (num_PutBytes.calls _ _ t162 _ _ ((rd_T37 l0 x20_2).f4) t165 t166 _ ?side1 ?side2 ?side3 ?side4 A55.out).mono ?_
              (case side1 => repeat (first | exact (Kd.R_reads' HO164.out).2.2 | (with_reducible refine Kd.C_alloc ?_ _) | (with_reducible refine Kd.C_drewN ?_ _) | (with_reducible refine Kd.C_drew ?_)))
              (case side2 => exact (Kd.R_reads' HO164.out).2.1)
              (case side3 => repeat (first | exact (Kd.C_below HR139_4.out HB.out) | (with_reducible refine Kd.C_alloc ?_ _) | (with_reducible refine Kd.C_drewN ?_ _) | (with_reducible refine Kd.C_drew ?_)))
              (case side4 => exact HC139_4.out)
              rintro e w71 ⟨v167, rfl, ho0, hb⟩
              refine ⟨_, rfl, ?_⟩
              have n0_ := Aside0.mk (Kd.R_elder' q5_ (Kd.R_base ho0) hb)
              have n1_ := Aside0.mk (Kd.R_elder' q25_ (Kd.R_base ho0) hb)
              have n2_ := Aside0.mk (Kd.R_elder' q42_ (Kd.R_base ho0) hb)
              have n3_ := Aside0.mk (Kd.R_elder' (by (with_reducible repeat (first | apply Kd.R_alloc | apply Kd.R_drewN | apply Kd.R_drew)); exact HO164.out) (Kd.R_base ho0) hb)
              have n4_ := Aside0.mk (Kd.R_lower (Kd.R_new' (Kd.R_new' (Kd.R_new' (Kd.R_new' ho0 (Kd.R_lt q5_)) (Kd.R_lt q25_)) (Kd.R_lt q42_)) (Kd.R_lt (by (with_reducible repeat (first | apply Kd.R_alloc | apply Kd.R_drewN | apply Kd.R_drew)); exact HO164.out))) (below_size q4_))
              have n5_ := Aside0.mk (blk_below (g := gb140) (o := .cells #[.int .i64 ((rd_T37 l0 x20_2).f0), .string ((rd_T37 l0 x20_2).f1), .string ((rd_T37 l0 x20_2).f2), .int .i64 ((rd_T37 l0 x20_2).f3), .slice A139_4 ((rd_T37 l0 x20_2).f4).length c139_4] 37 (0, 0)) q29_ hb)
              have n6_ := Aside0.mk (below_step q4_ hb)
              clear HO_6
              clear HO144
              clear HO148
              clear HO164
              clear BK140
              clear HB
              have HO_6 := n0_
              have HO144 := n1_
              have HO148 := n2_
              have HO164 := n3_
              have HO168 := n4_
              have BK140 := n5_
              have HB := n6_
              clear n0_ n1_ n2_ n3_ n4_ n5_ n6_
              (try clear hb)
              (try clear hb2)
              (try clear hk)
              (try clear hi)
              (try clear ho0)
              refine hK.out _ _ ⟨(blk_cell BK140.out 0).trans rfl, (blk_cell BK140.out 1).trans rfl, (blk_cell BK140.out 2).trans rfl, (blk_cell BK140.out 3).trans rfl, (blk_cell BK140.out 4).trans rfl⟩ (fun hHeld => ?_)
              clear hK K
              refine norm_ (a' := ?_) ?_ ?_
              rotate_left
              ·show Act.put _ (some 63) _ = _
               simp only [Act.put, List.setIfInBounds_toArray, List.set_cons_zero, List.set_cons_succ, i64_w, i32_w]
               rfl
              refine pure_ (i := 7) (N := some 56) (v := ?_) (a' := ?_) (bl_ 11 255) rfl rfl (any_of HT_.out q18_) (fun _ _ _ h => h) (Or.inl ⟨by rfl, ?_⟩) ?_ ?_
              rotate_left
              ·intro w'
               go_simp
               with_reducible rfl
              rotate_left
              ·simp only [Act.put, List.setIfInBounds_toArray, List.set_cons_zero, List.set_cons_succ, i64_w, i32_w]
               rfl
              refine pure_ (i := 8) (N := some 64) (v := ?_) (a' := ?_) (bl_ 11 511) rfl rfl (any_of HT_.out q18_) (fun _ _ _ h => h) (Or.inl ⟨by rfl, ?_⟩) ?_ ?_
              rotate_left
              ·intro w'
               go_simp
               with_reducible rfl
              rotate_left
              ·simp only [Act.put, List.setIfInBounds_toArray, List.set_cons_zero, List.set_cons_succ, i64_w, i32_w]
               rfl
              refine pure_ (i := 9) (N := some 65) (v := ?_) (a' := ?_) (bl_ 11 1023) rfl rfl (any_of HT_.out q18_) (fun _ _ _ h => h) (Or.inl ⟨by rfl, ?_⟩) ?_ ?_
              rotate_left
              ·intro w'
               go_simp
               with_reducible rfl
              rotate_left
              ·simp only [Act.put, List.setIfInBounds_toArray, List.set_cons_zero, List.set_cons_succ, i64_w, i32_w]
               rfl
              refine pure_ (i := 10) (N := some 9) (v := ?_) (a' := ?_) (bl_ 11 2047) rfl rfl (any_of HT_.out q18_) (fun _ _ _ h => h) (Or.inl ⟨by rfl, ?_⟩) ?_ ?_
              rotate_left
              ·intro w'
               go_simp
               with_reducible rfl
              rotate_left
              ·simp only [Act.put, List.setIfInBounds_toArray, List.set_cons_zero, List.set_cons_succ, i64_w, i32_w]
               rfl
              refine done_ (done_of HT_.out q18_) ?_
              obtain ⟨Ao73, co73, eo73⟩ := Kd.R_slice HO168.out
              subst eo73
              try go_wp2_with (first | ((with_reducible refine gate_builtin (b := .append) (xs := #[.tmp 66, .tmp 67]) rfl ?_); at_builtin; refine Kd.R_append_rows (Kd.int .u8) (w0 := w) w.heap.size rfl (.tmp 66) (.tmp 67) 35 5 (.int .u8 0) 1 rfl Tryd.underlying35 info5 rfl q81_ (by omega) u6 x6_2 t165 _ _ _ (fun k_ => some k_ ≠ (.slice Ao64 y142.length co64 : Value).ownBlock ∧ some k_ ≠ (.slice Ao68 t145.length co68 : Value).ownBlock ∧ some k_ ≠ (.slice Ao70 t162.length co70 : Value).ownBlock ∧ some k_ ≠ (.slice Ao73 t165.length co73 : Value).ownBlock) (fun _ => False) rfl rfl ?aO ?aR (fun _ _ h => h) (fun _ h => h.elim) ?aF ?aB ?aS ?aL ?_; (case aR => repeat (first | exact (Kd.R_reads' HO168.out).2.2 | (with_reducible refine Kd.C_alloc ?_ _) | (with_reducible refine Kd.C_drewN ?_ _) | (with_reducible refine Kd.C_drew ?_))); (case aB => exact q4_); (case aF => exact (fun k_ hk => ⟨Kd.fresh' (Kd.R_lt q25_) k_ hk, Kd.fresh' (Kd.R_lt q42_) k_ hk, Kd.fresh' (Kd.R_lt (by (with_reducible repeat (first | apply Kd.R_alloc | apply Kd.R_drewN | apply Kd.R_drew)); exact HO164.out)) k_ hk, Kd.fresh' (Kd.R_lt (by (with_reducible repeat (first | apply Kd.R_alloc | apply Kd.R_drewN | apply Kd.R_drew)); exact HO168.out)) k_ hk⟩)); (case aO => exact (by (with_reducible repeat (first | apply Kd.R_alloc | apply Kd.R_drewN | apply Kd.R_drew)); exact Kd.R_mono HO_6.out (fun _ hk => ⟨hk.1.1.1.2, ⟨hk.1.1.2, ⟨hk.1.2, hk.2⟩⟩⟩))); (case aS => exact (below_size q4_)); (case aL => have := LMc56.out; omega); intro v170 w72 ho hb hg hat; rw [← Ny169.out] at ho; have n0_ := Aside0.mk (blk_grown (g := gb140) (o := .cells #[.int .i64 ((rd_T37 l0 x20_2).f0), .string ((rd_T37 l0 x20_2).f1), .string ((rd_T37 l0 x20_2).f2), .int .i64 ((rd_T37 l0 x20_2).f3), .slice A139_4 ((rd_T37 l0 x20_2).f4).length c139_4] 37 (0, 0)) q29_ hg (Kd.R_ne HO_6.out BK140.out q81_)); have n1_ := Aside0.mk (Kd.R_after (ok := (fun k_ => some k_ ≠ (.slice Ao68 t145.length co68 : Value).ownBlock ∧ some k_ ≠ (.slice Ao70 t162.length co70 : Value).ownBlock ∧ some k_ ≠ (.slice Ao73 t165.length co73 : Value).ownBlock)) (by (with_reducible repeat (first | apply Kd.R_alloc | apply Kd.R_drewN | apply Kd.R_drew)); exact Kd.R_mono HO144.out (fun _ hk => ⟨⟨hk.1.1.2, ⟨hk.1.2, hk.2⟩⟩, hk.1.1.1.2⟩)) hg hat); have n2_ := Aside0.mk (Kd.R_after (ok := (fun k_ => some k_ ≠ (.slice Ao64 y142.length co64 : Value).ownBlock ∧ some k_ ≠ (.slice Ao70 t162.length co70 : Value).ownBlock ∧ some k_ ≠ (.slice Ao73 t165.length co73 : Value).ownBlock)) (by (with_reducible repeat (first | apply Kd.R_alloc | apply Kd.R_drewN | apply Kd.R_drew)); exact Kd.R_mono HO148.out (fun _ hk => ⟨⟨hk.1.1.2, ⟨hk.1.2, hk.2⟩⟩, hk.1.1.1.2⟩)) hg hat); have n3_ := Aside0.mk (Kd.R_after (ok := (fun k_ => some k_ ≠ (.slice Ao64 y142.length co64 : Value).ownBlock ∧ some k_ ≠ (.slice Ao68 t145.length co68 : Value).ownBlock ∧ some k_ ≠ (.slice Ao73 t165.length co73 : Value).ownBlock)) (by (with_reducible repeat (first | apply Kd.R_alloc | apply Kd.R_drewN | apply Kd.R_drew)); exact Kd.R_mono HO164.out (fun _ hk => ⟨⟨hk.1.1.2, ⟨hk.1.2, hk.2⟩⟩, hk.1.1.1.2⟩)) hg hat); have n4_ := Aside0.mk (Kd.R_after (ok := (fun k_ => some k_ ≠ (.slice Ao64 y142.length co64 : Value).ownBlock ∧ some k_ ≠ (.slice Ao68 t145.length co68 : Value).ownBlock ∧ some k_ ≠ (.slice Ao70 t162.length co70 : Value).ownBlock)) (by (with_reducible repeat (first | apply Kd.R_alloc | apply Kd.R_drewN | apply Kd.R_drew)); exact Kd.R_mono HO168.out (fun _ hk => ⟨⟨hk.1.1.2, ⟨hk.1.2, hk.2⟩⟩, hk.1.1.1.2⟩)) hg hat); have n5_ := Aside0.mk (hb); have n6_ := Aside0.mk (ho); clear BK140; clear HO144; clear HO148; clear HO164; clear HO168; clear HB; clear HO_6; have BK140 := n0_; have HO144 := n1_; have HO148 := n2_; have HO164 := n3_; have HO168 := n4_; have HB := n5_; have HO171 := n6_; clear n0_ n1_ n2_ n3_ n4_ n5_ n6_; clear ho hb hg hat))
              go_roundg k2
              case measure => have := HJ3.out; have := HK2.out; omega
              case rel => exact ⟨(y169), (wrap64 (x20_2 + 1)), q3_, H', ⟨by have := HJ3.out; have := HK2.out; omega⟩, ⟨by (with_reducible repeat (first | apply Kd.R_alloc | apply Kd.R_drewN | apply Kd.R_drew)); exact Kd.R_mono HO171.out (fun _ hk => trivial)⟩, ⟨q4_⟩⟩
             ·rw [if_neg c56] at H
              exact absurd H (by simp)
            ·rw [if_neg c53] at H
             have c53b0 : (((rd_T37 l0 x20_2).f0) == 4) = false := beq_eq_false_iff_ne.mpr c53
             have c53b1 : (((rd_T37 l0 x20_2).f0) != 4) = true := bne_iff_ne.mpr c53
             by_cases c74 : x6_2.length + t145.length < 140737488355328
             ·rw [if_pos c74] at H
              have LMc74 := Aside0.mk c74
              clear c74
              obtain ⟨y172, hy172⟩ : ∃ y_ : List Int, y_ = (x6_2 ++ t145) := ⟨_, rfl⟩
              replace H : (stream_Put.l0 k2 y172 l0 (l0.length : Int) (wrap64 (x20_2 + 1))) = some (r1, r2) := by first | (rw [hy172]; with_reducible exact H) | (have H2_ := (Option.bind_some _ _).symm.trans H; rw [hy172]; with_reducible exact H2_) | (have H2_ := (Option.bind_some _ _).symm.trans H; with_reducible exact H2_) | with_reducible exact H | (rw [hy172]; exact H) | exact H
              have Ny172 := Aside0.mk hy172
              clear hy172
              have H' := Aside0.mk H
              clear H
              have p139 : 0 ≤ (x20_2 : Int) := of_decide_eq_true q7_
              have q139 : x20_2 < (l0.length : Int) := of_decide_eq_true q7_
              obtain ⟨ad139, A139_4, c139_4, e139, hx139_0, hx139_1, hx139_2, hx139_3, hx139_4, hl139_4, hi139_4⟩ := at_T37 HR0.out x20_2 p139 q139
              cases e139
              replace hx139_0 := (HB.out.cell (World.block_lt_of_cell? w _ hx139_0)).trans hx139_0
              replace hx139_1 := (HB.out.cell (World.block_lt_of_cell? w _ hx139_1)).trans hx139_1
              replace hx139_2 := (HB.out.cell (World.block_lt_of_cell? w _ hx139_2)).trans hx139_2
              replace hx139_3 := (HB.out.cell (World.block_lt_of_cell? w _ hx139_3)).trans hx139_3
              replace hx139_4 := (HB.out.cell (World.block_lt_of_cell? w _ hx139_4)).trans hx139_4
              have HR139_4 := Aside0.mk hi139_4
              have HC139_4 := Aside0.mk hl139_4
              clear hi139_4 hl139_4
              replace p139 := eq_true p139
              replace q139 := eq_true q139
              go_wp2_with (first | ((with_reducible refine gate_dst (N := 8) rfl ?_); refine box_event ?hg (N := 8) ?hd (cs := #[.int .i64 0, .string (⟨#[]⟩ : ByteArray), .string (⟨#[]⟩ : ByteArray), .int .i64 0, .slice none 0 0]) (t := 37) ?hr ?_; (case hd => rfl); (case hg => rfl); (case hr => first | (go_simp; done) | (go_simp; rfl)); intro gb140 hg w75 hbox hb; have n0_ := Aside0.mk (Kd.R_below q5_ hb); have n1_ := Aside0.mk (below_step q0_ hb); have n2_ := Aside0.mk (hbox); have n3_ := Aside0.mk ((by rw [hg]; exact (below_size q0_) : w.heap.size ≤ gb140)); have n4_ := Aside0.mk ((by rw [hg]; exact (below_size q0_) : w.heap.size ≤ gb140)); clear HO_6; clear HB; have HO_6 := n0_; have HB := n1_; have BK140 := n2_; have GW140 := n3_; have GE140 := n4_; clear n0_ n1_ n2_ n3_ n4_; clear hb hbox hg; have hcz76_0 : w75.cell? ⟨gb140, 0, none⟩ = some (.int .i64 0) := (blk_cell BK140.out 0).trans rfl; have hcz76_1 : w75.cell? ⟨gb140, 1, none⟩ = some (.string (⟨#[]⟩ : ByteArray)) := (blk_cell BK140.out 1).trans rfl; have hcz76_2 : w75.cell? ⟨gb140, 2, none⟩ = some (.string (⟨#[]⟩ : ByteArray)) := (blk_cell BK140.out 2).trans rfl; have hcz76_3 : w75.cell? ⟨gb140, 3, none⟩ = some (.int .i64 0) := (blk_cell BK140.out 3).trans rfl; have hcz76_4 : w75.cell? ⟨gb140, 4, none⟩ = some (.slice none 0 0) := (blk_cell BK140.out 4).trans rfl; have hfz76_0 := blk_frozen BK140.out 0; have hfz76_1 := blk_frozen BK140.out 1; have hfz76_2 := blk_frozen BK140.out 2; have hfz76_3 := blk_frozen BK140.out 3; have hfz76_4 := blk_frozen BK140.out 4) | ((with_reducible refine gate_callee (f := 17) rfl ?_); refine goesL_ (some 25) rfl rfl Tryd.func17 q18_ rfl #[.agg #[.int .i64 ((rd_T37 l0 x20_2).f0), .string ((rd_T37 l0 x20_2).f1), .string ((rd_T37 l0 x20_2).f2), .int .i64 ((rd_T37 l0 x20_2).f3), .slice A139_4 ((rd_T37 l0 x20_2).f4).length c139_4]] rfl q1_ ?_; (with_reducible refine (stream_Good.calls k2 ((rd_T37 l0 x20_2).f0) ((rd_T37 l0 x20_2).f1) ((rd_T37 l0 x20_2).f2) ((rd_T37 l0 x20_2).f3) _ _ ((rd_T37 l0 x20_2).f4) true _ ?side1 ?side2 A16.out).mono ?_); (case side1 => exact Kd.C_below HR139_4.out q4_); (case side2 => exact HC139_4.out); rintro e w77 ⟨rfl, hb⟩; refine ⟨_, rfl, ?_⟩; have n0_ := Aside0.mk (Kd.R_below q22_ hb); have n1_ := Aside0.mk (blk_below (g := gb140) (o := .cells #[.int .i64 ((rd_T37 l0 x20_2).f0), .string ((rd_T37 l0 x20_2).f1), .string ((rd_T37 l0 x20_2).f2), .int .i64 ((rd_T37 l0 x20_2).f3), .slice A139_4 ((rd_T37 l0 x20_2).f4).length c139_4] 37 (0, 0)) q6_ hb); have n2_ := Aside0.mk (below_step q4_ hb); clear HO_6; clear BK140; clear HB; have HO_6 := n0_; have BK140 := n1_; have HB := n2_; clear n0_ n1_ n2_; (try clear hb); (try clear hb2); (try clear hk); (try clear hi); have hcz78_0 : w77.cell? ⟨gb140, 0, none⟩ = some (.int .i64 ((rd_T37 l0 x20_2).f0)) := (blk_cell BK140.out 0).trans rfl; have hcz78_1 : w77.cell? ⟨gb140, 1, none⟩ = some (.string ((rd_T37 l0 x20_2).f1)) := (blk_cell BK140.out 1).trans rfl; have hcz78_2 : w77.cell? ⟨gb140, 2, none⟩ = some (.string ((rd_T37 l0 x20_2).f2)) := (blk_cell BK140.out 2).trans rfl; have hcz78_3 : w77.cell? ⟨gb140, 3, none⟩ = some (.int .i64 ((rd_T37 l0 x20_2).f3)) := (blk_cell BK140.out 3).trans rfl; have hcz78_4 : w77.cell? ⟨gb140, 4, none⟩ = some (.slice A139_4 ((rd_T37 l0 x20_2).f4).length c139_4) := (blk_cell BK140.out 4).trans rfl; have hfz78_0 := blk_frozen BK140.out 0; have hfz78_1 := blk_frozen BK140.out 1; have hfz78_2 := blk_frozen BK140.out 2; have hfz78_3 := blk_frozen BK140.out 3; have hfz78_4 := blk_frozen BK140.out 4) | ((with_reducible refine gate_dst (N := 31) rfl ?_); refine Kd.R_lit (Kd.int .u8) _ 5 ?hg (N := 31) ?hd (xs := ([((rd_T37 l0 x20_2).f0) % 256] : List Int)) (inner := [.int .u8 (((rd_T37 l0 x20_2).f0) % 256)]) (ok := fun _ => True) (okp := fun _ => True) ?hr ?hp (fun _ hk => hk) trivial (Below.refl _ _) (Nat.le_refl _) (by simp) ?_; (case hd => rfl); (case hg => rfl); (case hr => first | (go_simp; done) | (go_simp; rfl)); (case hp => exact (Reps.one (show Kd.M (Kd.int .u8) _ _ _ (((rd_T37 l0 x20_2).f0) % 256) [.int .u8 (((rd_T37 l0 x20_2).f0) % 256)] from rfl) (Reps.none _ _))); intro v143 w79 ho80 hb hg_ hnew_; clear hg_ hnew_; (first | rw [← Ny142.out] at ho80 | (simp only [Int.reduceToNat] at ho80; rw [← Ny142.out] at ho80)); have n0_ := Aside0.mk (Kd.R_elder' q5_ (Kd.R_base ho80) hb); have n1_ := Aside0.mk (Kd.R_lower (Kd.R_new' ho80 (Kd.R_lt q5_)) (below_size q4_)); have n2_ := Aside0.mk (blk_below (g := gb140) (o := .cells #[.int .i64 ((rd_T37 l0 x20_2).f0), .string ((rd_T37 l0 x20_2).f1), .string ((rd_T37 l0 x20_2).f2), .int .i64 ((rd_T37 l0 x20_2).f3), .slice A139_4 ((rd_T37 l0 x20_2).f4).length c139_4] 37 (0, 0)) q29_ hb); have n3_ := Aside0.mk (below_step q4_ hb); clear HO_6; clear BK140; clear HB; have HO_6 := n0_; have HO144 := n1_; have BK140 := n2_; have HB := n3_; clear n0_ n1_ n2_ n3_; clear hb ho80; have hcz81_0 : w79.cell? ⟨gb140, 0, none⟩ = some (.int .i64 ((rd_T37 l0 x20_2).f0)) := (blk_cell BK140.out 0).trans rfl; have hcz81_1 : w79.cell? ⟨gb140, 1, none⟩ = some (.string ((rd_T37 l0 x20_2).f1)) := (blk_cell BK140.out 1).trans rfl; have hcz81_2 : w79.cell? ⟨gb140, 2, none⟩ = some (.string ((rd_T37 l0 x20_2).f2)) := (blk_cell BK140.out 2).trans rfl; have hcz81_3 : w79.cell? ⟨gb140, 3, none⟩ = some (.int .i64 ((rd_T37 l0 x20_2).f3)) := (blk_cell BK140.out 3).trans rfl; have hcz81_4 : w79.cell? ⟨gb140, 4, none⟩ = some (.slice A139_4 ((rd_T37 l0 x20_2).f4).length c139_4) := (blk_cell BK140.out 4).trans rfl; have hfz81_0 := blk_frozen BK140.out 0; have hfz81_1 := blk_frozen BK140.out 1; have hfz81_2 := blk_frozen BK140.out 2; have hfz81_3 := blk_frozen BK140.out 3; have hfz81_4 := blk_frozen BK140.out 4; obtain ⟨Ao82, co82, eo82⟩ := Kd.R_slice HO144.out; subst eo82) | ((with_reducible refine gate_callee (f := 29) rfl ?_); refine goesL_ (some 34) rfl rfl Tryd.func29 q18_ rfl #[.slice Ao82 y142.length co82, .string ((rd_T37 l0 x20_2).f1)] rfl q1_ ?_; (with_reducible refine (num_PutText.calls _ _ y142 ((rd_T37 l0 x20_2).f1) t145 t146 _ ?side1 ?side2 A18.out).mono ?_); (case side1 => repeat (first | exact (Kd.R_reads' HO144.out).2.2 | (with_reducible refine Kd.C_alloc ?_ _) | (with_reducible refine Kd.C_drewN ?_ _) | (with_reducible refine Kd.C_drew ?_))); (case side2 => exact (Kd.R_reads' HO144.out).2.1); rintro e w83 ⟨v147, rfl, ho0, hb⟩; refine ⟨_, rfl, ?_⟩; have n0_ := Aside0.mk (Kd.R_elder' q5_ (Kd.R_base ho0) hb); have n1_ := Aside0.mk (Kd.R_elder' q25_ (Kd.R_base ho0) hb); have n2_ := Aside0.mk (Kd.R_lower (Kd.R_new' (Kd.R_new' ho0 (Kd.R_lt q5_)) (Kd.R_lt q25_)) (below_size q4_)); have n3_ := Aside0.mk (blk_below (g := gb140) (o := .cells #[.int .i64 ((rd_T37 l0 x20_2).f0), .string ((rd_T37 l0 x20_2).f1), .string ((rd_T37 l0 x20_2).f2), .int .i64 ((rd_T37 l0 x20_2).f3), .slice A139_4 ((rd_T37 l0 x20_2).f4).length c139_4] 37 (0, 0)) q29_ hb); have n4_ := Aside0.mk (below_step q4_ hb); clear HO_6; clear HO144; clear BK140; clear HB; have HO_6 := n0_; have HO144 := n1_; have HO148 := n2_; have BK140 := n3_; have HB := n4_; clear n0_ n1_ n2_ n3_ n4_; (try clear hb); (try clear hb2); (try clear hk); (try clear hi); (try clear ho0); have hcz84_0 : w83.cell? ⟨gb140, 0, none⟩ = some (.int .i64 ((rd_T37 l0 x20_2).f0)) := (blk_cell BK140.out 0).trans rfl; have hcz84_1 : w83.cell? ⟨gb140, 1, none⟩ = some (.string ((rd_T37 l0 x20_2).f1)) := (blk_cell BK140.out 1).trans rfl; have hcz84_2 : w83.cell? ⟨gb140, 2, none⟩ = some (.string ((rd_T37 l0 x20_2).f2)) := (blk_cell BK140.out 2).trans rfl; have hcz84_3 : w83.cell? ⟨gb140, 3, none⟩ = some (.int .i64 ((rd_T37 l0 x20_2).f3)) := (blk_cell BK140.out 3).trans rfl; have hcz84_4 : w83.cell? ⟨gb140, 4, none⟩ = some (.slice A139_4 ((rd_T37 l0 x20_2).f4).length c139_4) := (blk_cell BK140.out 4).trans rfl; have hfz84_0 := blk_frozen BK140.out 0; have hfz84_1 := blk_frozen BK140.out 1; have hfz84_2 := blk_frozen BK140.out 2; have hfz84_3 := blk_frozen BK140.out 3; have hfz84_4 := blk_frozen BK140.out 4; obtain ⟨Ao86, co86, eo86⟩ := Kd.R_slice HO148.out; subst eo86) | ((with_reducible refine gate_builtin (b := .append) (xs := #[.tmp 66, .tmp 67]) rfl ?_); at_builtin; refine Kd.R_append_rows (Kd.int .u8) (w0 := w) w.heap.size rfl (.tmp 66) (.tmp 67) 35 5 (.int .u8 0) 1 rfl Tryd.underlying35 info5 rfl q81_ (by omega) u6 x6_2 t145 _ _ _ (fun k_ => some k_ ≠ (.slice Ao82 y142.length co82 : Value).ownBlock ∧ some k_ ≠ (.slice Ao86 t145.length co86 : Value).ownBlock) (fun _ => False) rfl rfl ?aO ?aR (fun _ _ h => h) (fun _ h => h.elim) ?aF ?aB ?aS ?aL ?_; (case aR => repeat (first | exact (Kd.R_reads' HO148.out).2.2 | (with_reducible refine Kd.C_alloc ?_ _) | (with_reducible refine Kd.C_drewN ?_ _) | (with_reducible refine Kd.C_drew ?_))); (case aB => exact q4_); (case aF => exact (fun k_ hk => ⟨Kd.fresh' (Kd.R_lt q25_) k_ hk, Kd.fresh' (Kd.R_lt q42_) k_ hk⟩)); (case aO => exact (by (with_reducible repeat (first | apply Kd.R_alloc | apply Kd.R_drewN | apply Kd.R_drew)); exact Kd.R_mono HO_6.out (fun _ hk => ⟨hk.1.2, hk.2⟩))); (case aS => exact (below_size q4_)); (case aL => have := LMc74.out; omega); intro v173 w85 ho hb hg hat; rw [← Ny172.out] at ho; have n0_ := Aside0.mk (blk_grown (g := gb140) (o := .cells #[.int .i64 ((rd_T37 l0 x20_2).f0), .string ((rd_T37 l0 x20_2).f1), .string ((rd_T37 l0 x20_2).f2), .int .i64 ((rd_T37 l0 x20_2).f3), .slice A139_4 ((rd_T37 l0 x20_2).f4).length c139_4] 37 (0, 0)) q29_ hg (Kd.R_ne HO_6.out BK140.out q81_)); have n1_ := Aside0.mk (Kd.R_after (ok := (fun k_ => some k_ ≠ (.slice Ao86 t145.length co86 : Value).ownBlock)) (by (with_reducible repeat (first | apply Kd.R_alloc | apply Kd.R_drewN | apply Kd.R_drew)); exact Kd.R_mono HO144.out (fun _ hk => ⟨hk.2, hk.1.2⟩)) hg hat); have n2_ := Aside0.mk (Kd.R_after (ok := (fun k_ => some k_ ≠ (.slice Ao82 y142.length co82 : Value).ownBlock)) (by (with_reducible repeat (first | apply Kd.R_alloc | apply Kd.R_drewN | apply Kd.R_drew)); exact Kd.R_mono HO148.out (fun _ hk => ⟨hk.2, hk.1.2⟩)) hg hat); have n3_ := Aside0.mk (hb); have n4_ := Aside0.mk (ho); clear BK140; clear HO144; clear HO148; clear HB; clear HO_6; have BK140 := n0_; have HO144 := n1_; have HO148 := n2_; have HB := n3_; have HO174 := n4_; clear n0_ n1_ n2_ n3_ n4_; clear ho hb hg hat))
              go_roundg k2
              case measure => have := HJ3.out; have := HK2.out; omega
              case rel => exact ⟨(y172), (wrap64 (x20_2 + 1)), q3_, H', ⟨by have := HJ3.out; have := HK2.out; omega⟩, ⟨by (with_reducible repeat (first | apply Kd.R_alloc | apply Kd.R_drewN | apply Kd.R_drew)); exact Kd.R_mono HO174.out (fun _ hk => trivial)⟩, ⟨q4_⟩⟩
             ·rw [if_neg c74] at H
              exact absurd H (by simp)
         ·replace c17 := Bool.eq_false_iff.mpr c17
          subst c17
          have H1 : (some (([] : List Int), 1)) = some (r1, r2) := by rw [if_neg (show ¬ (false = true) by decide)] at H; exact H
          clear H
          have H := H1
          clear H1
          simp only [Option.some.injEq, Prod.mk.injEq] at H
          obtain ⟨rfl, rfl⟩ := H
          have p139 : 0 ≤ (x20_2 : Int) := of_decide_eq_true q7_
          have q139 : x20_2 < (l0.length : Int) := of_decide_eq_true q7_
          obtain ⟨ad139, A139_4, c139_4, e139, hx139_0, hx139_1, hx139_2, hx139_3, hx139_4, hl139_4, hi139_4⟩ := at_T37 HR0.out x20_2 p139 q139
          cases e139
          replace hx139_0 := (HB.out.cell (World.block_lt_of_cell? w _ hx139_0)).trans hx139_0
          replace hx139_1 := (HB.out.cell (World.block_lt_of_cell? w _ hx139_1)).trans hx139_1
          replace hx139_2 := (HB.out.cell (World.block_lt_of_cell? w _ hx139_2)).trans hx139_2
          replace hx139_3 := (HB.out.cell (World.block_lt_of_cell? w _ hx139_3)).trans hx139_3
          replace hx139_4 := (HB.out.cell (World.block_lt_of_cell? w _ hx139_4)).trans hx139_4
          have HR139_4 := Aside0.mk hi139_4
          have HC139_4 := Aside0.mk hl139_4
          clear hi139_4 hl139_4
          replace p139 := eq_true p139
          replace q139 := eq_true q139
          go_wp2_with (first | ((with_reducible refine gate_dst (N := 8) rfl ?_); refine box_event ?hg (N := 8) ?hd (cs := #[.int .i64 0, .string (⟨#[]⟩ : ByteArray), .string (⟨#[]⟩ : ByteArray), .int .i64 0, .slice none 0 0]) (t := 37) ?hr ?_; (case hd => rfl); (case hg => rfl); (case hr => first | (go_simp; done) | (go_simp; rfl)); intro gb140 hg w87 hbox hb; have n0_ := Aside0.mk (Kd.R_below q5_ hb); have n1_ := Aside0.mk (below_step q0_ hb); have n2_ := Aside0.mk (hbox); have n3_ := Aside0.mk ((by rw [hg]; exact (below_size q0_) : w.heap.size ≤ gb140)); have n4_ := Aside0.mk ((by rw [hg]; exact (below_size q0_) : w.heap.size ≤ gb140)); clear HO_6; clear HB; have HO_6 := n0_; have HB := n1_; have BK140 := n2_; have GW140 := n3_; have GE140 := n4_; clear n0_ n1_ n2_ n3_ n4_; clear hb hbox hg; have hcz88_0 : w87.cell? ⟨gb140, 0, none⟩ = some (.int .i64 0) := (blk_cell BK140.out 0).trans rfl; have hcz88_1 : w87.cell? ⟨gb140, 1, none⟩ = some (.string (⟨#[]⟩ : ByteArray)) := (blk_cell BK140.out 1).trans rfl; have hcz88_2 : w87.cell? ⟨gb140, 2, none⟩ = some (.string (⟨#[]⟩ : ByteArray)) := (blk_cell BK140.out 2).trans rfl; have hcz88_3 : w87.cell? ⟨gb140, 3, none⟩ = some (.int .i64 0) := (blk_cell BK140.out 3).trans rfl; have hcz88_4 : w87.cell? ⟨gb140, 4, none⟩ = some (.slice none 0 0) := (blk_cell BK140.out 4).trans rfl; have hfz88_0 := blk_frozen BK140.out 0; have hfz88_1 := blk_frozen BK140.out 1; have hfz88_2 := blk_frozen BK140.out 2; have hfz88_3 := blk_frozen BK140.out 3; have hfz88_4 := blk_frozen BK140.out 4) | ((with_reducible refine gate_callee (f := 17) rfl ?_); refine goesL_ (some 25) rfl rfl Tryd.func17 q18_ rfl #[.agg #[.int .i64 ((rd_T37 l0 x20_2).f0), .string ((rd_T37 l0 x20_2).f1), .string ((rd_T37 l0 x20_2).f2), .int .i64 ((rd_T37 l0 x20_2).f3), .slice A139_4 ((rd_T37 l0 x20_2).f4).length c139_4]] rfl q1_ ?_; (with_reducible refine (stream_Good.calls k2 ((rd_T37 l0 x20_2).f0) ((rd_T37 l0 x20_2).f1) ((rd_T37 l0 x20_2).f2) ((rd_T37 l0 x20_2).f3) _ _ ((rd_T37 l0 x20_2).f4) false _ ?side1 ?side2 A16.out).mono ?_); (case side1 => exact Kd.C_below HR139_4.out q4_); (case side2 => exact HC139_4.out); rintro e w89 ⟨rfl, hb⟩; refine ⟨_, rfl, ?_⟩; have n0_ := Aside0.mk (Kd.R_below q22_ hb); have n1_ := Aside0.mk (blk_below (g := gb140) (o := .cells #[.int .i64 ((rd_T37 l0 x20_2).f0), .string ((rd_T37 l0 x20_2).f1), .string ((rd_T37 l0 x20_2).f2), .int .i64 ((rd_T37 l0 x20_2).f3), .slice A139_4 ((rd_T37 l0 x20_2).f4).length c139_4] 37 (0, 0)) q6_ hb); have n2_ := Aside0.mk (below_step q4_ hb); clear HO_6; clear BK140; clear HB; have HO_6 := n0_; have BK140 := n1_; have HB := n2_; clear n0_ n1_ n2_; (try clear hb); (try clear hb2); (try clear hk); (try clear hi)))
          go_ret2
          exact ⟨_, by first | rfl | (simp [errW_none, errW_some] <;> rfl) | (simp [*, errW_none, errW_some] <;> rfl), by first | exact Kd.R_nil _ _ _ _ _ | exact Kd.N_nil _ _ _ _ _ | exact Kd.V_nil _ _ _ _ _ | exact Kd.Q_nil _ _ _ _ _ | exact Kd.S_nil _ _ _ _ _, by repeat (first | (with_reducible first | exact HB.out | apply below_alloc | apply pw_below_drewN | apply below_drew1 | refine below_set ?_ GE140.out) | exact HB.out)⟩
        ·rw [if_neg c15] at H
         exact absurd H (by simp)
       ·rw [if_neg c14] at H
        exact absurd H (by simp)
      ·rw [if_neg c13] at H
       have c13b0 : decide (x20_2 < (l0.length : Int)) = false := decide_eq_false c13
       clear c13
       by_cases c90 : x6_2.length < 140737488355328
       ·rw [if_pos c90] at H
        have LMc90 := Aside0.mk c90
        clear c90
        obtain ⟨y130, hy130⟩ : ∃ y_ : List Int, y_ = (x6_2 ++ [8]) := ⟨_, rfl⟩
        replace H : ((stream_tail.f y130).bind fun t133 => (if y130.length + t133.length < 140737488355328 then ((some (y130 ++ t133 : List Int)).bind fun y136 => (if (y136.length : Int) > 65536 then (some (([] : List Int), 7)) else (some (y136, 0)))) else (none))) = some (r1, r2) := by first | (rw [hy130]; with_reducible exact H) | (have H2_ := (Option.bind_some _ _).symm.trans H; rw [hy130]; with_reducible exact H2_) | (have H2_ := (Option.bind_some _ _).symm.trans H; with_reducible exact H2_) | with_reducible exact H | (rw [hy130]; exact H) | exact H
        have Ny130 := Aside0.mk hy130
        clear hy130
        replace H := Option.bind_eq_some_iff.mp H
        obtain ⟨t133, A910, H⟩ := H
        replace H : (if y130.length + t133.length < 140737488355328 then ((some (y130 ++ t133 : List Int)).bind fun y136 => (if (y136.length : Int) > 65536 then (some (([] : List Int), 7)) else (some (y136, 0)))) else (none)) = some (r1, r2) := H
        have A91 := Aside0.mk A910
        clear A910
        by_cases c92 : y130.length + t133.length < 140737488355328
        ·rw [if_pos c92] at H
         have LMc92 := Aside0.mk c92
         clear c92
         obtain ⟨y136, hy136⟩ : ∃ y_ : List Int, y_ = (y130 ++ t133) := ⟨_, rfl⟩
         replace H : (if (y136.length : Int) > 65536 then (some (([] : List Int), 7)) else (some (y136, 0))) = some (r1, r2) := by first | (rw [hy136]; with_reducible exact H) | (have H2_ := (Option.bind_some _ _).symm.trans H; rw [hy136]; with_reducible exact H2_) | (have H2_ := (Option.bind_some _ _).symm.trans H; with_reducible exact H2_) | with_reducible exact H | (rw [hy136]; exact H) | exact H
         have Ny136 := Aside0.mk hy136
         clear hy136
         by_cases c93 : (y136.length : Int) > 65536
         ·rw [if_pos c93] at H
          have c93b0 : decide (65536 < (y136.length : Int)) = true := decide_eq_true c93
          have c93b1 : decide (65536 < y136.length) = true := decide_eq_true (by omega)
          clear c93
          simp only [Option.some.injEq, Prod.mk.injEq] at H
          obtain ⟨rfl, rfl⟩ := H
          go_wp2_with (first | ((with_reducible refine gate_builtin (b := .append) (xs := #[.tmp 70, .tmp 71]) rfl ?_); at_builtin; refine Kd.R_append (Kd.int .u8) (w0 := w) w.heap.size rfl (.tmp 70) (.tmp 71) 35 5 (.int .u8 0) 1 rfl Tryd.underlying35 info5 rfl q81_ (by omega) u6 x6_2 8 [.int .u8 8] (fun _ => True) (fun _ => False) rfl rfl ?aP (fun _ hk => hk.elim) ?aF ?aO ?aB ?aS ?aL ?_; (case aP => exact rfl); (case aB => exact q0_); (case aF => exact (fun _ _ => trivial)); (case aO => exact q5_); (case aS => exact (below_size q0_)); (case aL => have := LMc90.out; omega); intro v131 w94 ho hb hg hat; rw [← Ny130.out] at ho; have n0_ := Aside0.mk (hb); have n1_ := Aside0.mk (ho); clear HB; clear HO_6; have HB := n0_; have HO132 := n1_; clear n0_ n1_; clear ho hb hg hat; obtain ⟨Ao95, co95, eo95⟩ := Kd.R_slice HO132.out; subst eo95) | ((with_reducible refine gate_callee (f := 32) rfl ?_); refine goesL_ (some 75) rfl rfl Tryd.func32 q18_ rfl #[.slice Ao95 y130.length co95] rfl q1_ ?_; (with_reducible refine (stream_tail.calls _ _ y130 t133 _ ?side1 ?side2 A91.out).mono ?_); (case side1 => repeat (first | exact (Kd.R_reads' HO132.out).2.2 | (with_reducible refine Kd.C_alloc ?_ _) | (with_reducible refine Kd.C_drewN ?_ _) | (with_reducible refine Kd.C_drew ?_))); (case side2 => exact (Kd.R_reads' HO132.out).2.1); rintro e w96 ⟨v134, rfl, ho0, hb⟩; refine ⟨_, rfl, ?_⟩; have n0_ := Aside0.mk (Kd.R_below q69_ hb); have n1_ := Aside0.mk (Kd.V_lower (Kd.V_mono (ok' := fun k_ => some k_ ≠ (.slice Ao95 y130.length co95 : Value).ownBlock) ho0 (fun k_ hk_ => (Kd.fresh' (Kd.R_lt q69_) k_ hk_))) (below_size q0_)); have n2_ := Aside0.mk (below_step q0_ hb); clear HO132; clear HB; have HO132 := n0_; have HO135 := n1_; have HB := n2_; clear n0_ n1_ n2_; (try clear hb); (try clear hb2); (try clear hk); (try clear hi); (try clear ho0); obtain ⟨Ao98, co98, eo98⟩ := Kd.V_slice HO135.out; subst eo98) | ((with_reducible refine gate_builtin (b := .append) (xs := #[.tmp 73, .tmp 75]) rfl ?_); at_builtin; refine Kd.R_append_rows (Kd.int .u8) (w0 := w) w.heap.size rfl (.tmp 73) (.tmp 75) 35 5 (.int .u8 0) 1 rfl Tryd.underlying35 info5 rfl q81_ (by omega) (.slice Ao95 y130.length co95) y130 t133 _ _ _ (fun _ => True) (fun _ => False) rfl rfl ?aO ?aR (fun _ _ h => h) (fun _ h => h.elim) ?aF ?aB ?aS ?aL ?_; (case aR => repeat (first | exact (Kd.V_reads' HO135.out).2.2 | (with_reducible refine Kd.C_alloc ?_ _) | (with_reducible refine Kd.C_drewN ?_ _) | (with_reducible refine Kd.C_drew ?_))); (case aB => exact q0_); (case aF => exact (fun _ _ => trivial)); (case aO => exact q69_); (case aS => exact (below_size q0_)); (case aL => have := LMc92.out; omega); intro v137 w97 ho hb hg hat; rw [← Ny136.out] at ho; have n0_ := Aside0.mk (Kd.V_afterv (ok := (fun _ => True)) (by (with_reducible repeat (first | apply Kd.V_alloc | apply Kd.V_drewN | apply Kd.V_drew)); exact Kd.V_mono HO135.out (fun _ hk => ⟨trivial, hk⟩)) hg hat); have n1_ := Aside0.mk (hb); have n2_ := Aside0.mk (ho); clear HO135; clear HB; clear HO132; have HO135 := n0_; have HB := n1_; have HO138 := n2_; clear n0_ n1_ n2_; clear ho hb hg hat; obtain ⟨Ao99, co99, eo99⟩ := Kd.R_slice HO138.out; subst eo99))
          go_ret2
          exact ⟨_, by first | rfl | (simp [errW_none, errW_some] <;> rfl) | (simp [*, errW_none, errW_some] <;> rfl), by first | exact Kd.R_nil _ _ _ _ _ | exact Kd.N_nil _ _ _ _ _ | exact Kd.V_nil _ _ _ _ _ | exact Kd.Q_nil _ _ _ _ _ | exact Kd.S_nil _ _ _ _ _, by repeat (first | (with_reducible first | exact HB.out | apply below_alloc | apply pw_below_drewN | apply below_drew1) | exact HB.out)⟩
         ·rw [if_neg c93] at H
          have c93b0 : decide (65536 < (y136.length : Int)) = false := decide_eq_false c93
          have c93b1 : decide (65536 < y136.length) = false := decide_eq_false (by omega)
          clear c93
          simp only [Option.some.injEq, Prod.mk.injEq] at H
          obtain ⟨rfl, rfl⟩ := H
          go_wp2_with (first | ((with_reducible refine gate_builtin (b := .append) (xs := #[.tmp 70, .tmp 71]) rfl ?_); at_builtin; refine Kd.R_append (Kd.int .u8) (w0 := w) w.heap.size rfl (.tmp 70) (.tmp 71) 35 5 (.int .u8 0) 1 rfl Tryd.underlying35 info5 rfl q81_ (by omega) u6 x6_2 8 [.int .u8 8] (fun _ => True) (fun _ => False) rfl rfl ?aP (fun _ hk => hk.elim) ?aF ?aO ?aB ?aS ?aL ?_; (case aP => exact rfl); (case aB => exact q0_); (case aF => exact (fun _ _ => trivial)); (case aO => exact q5_); (case aS => exact (below_size q0_)); (case aL => have := LMc90.out; omega); intro v131 w100 ho hb hg hat; rw [← Ny130.out] at ho; have n0_ := Aside0.mk (hb); have n1_ := Aside0.mk (ho); clear HB; clear HO_6; have HB := n0_; have HO132 := n1_; clear n0_ n1_; clear ho hb hg hat; obtain ⟨Ao101, co101, eo101⟩ := Kd.R_slice HO132.out; subst eo101) | ((with_reducible refine gate_callee (f := 32) rfl ?_); refine goesL_ (some 75) rfl rfl Tryd.func32 q18_ rfl #[.slice Ao101 y130.length co101] rfl q1_ ?_; (with_reducible refine (stream_tail.calls _ _ y130 t133 _ ?side1 ?side2 A91.out).mono ?_); (case side1 => repeat (first | exact (Kd.R_reads' HO132.out).2.2 | (with_reducible refine Kd.C_alloc ?_ _) | (with_reducible refine Kd.C_drewN ?_ _) | (with_reducible refine Kd.C_drew ?_))); (case side2 => exact (Kd.R_reads' HO132.out).2.1); rintro e w102 ⟨v134, rfl, ho0, hb⟩; refine ⟨_, rfl, ?_⟩; have n0_ := Aside0.mk (Kd.R_below q69_ hb); have n1_ := Aside0.mk (Kd.V_lower (Kd.V_mono (ok' := fun k_ => some k_ ≠ (.slice Ao101 y130.length co101 : Value).ownBlock) ho0 (fun k_ hk_ => (Kd.fresh' (Kd.R_lt q69_) k_ hk_))) (below_size q0_)); have n2_ := Aside0.mk (below_step q0_ hb); clear HO132; clear HB; have HO132 := n0_; have HO135 := n1_; have HB := n2_; clear n0_ n1_ n2_; (try clear hb); (try clear hb2); (try clear hk); (try clear hi); (try clear ho0); obtain ⟨Ao104, co104, eo104⟩ := Kd.V_slice HO135.out; subst eo104) | ((with_reducible refine gate_builtin (b := .append) (xs := #[.tmp 73, .tmp 75]) rfl ?_); at_builtin; refine Kd.R_append_rows (Kd.int .u8) (w0 := w) w.heap.size rfl (.tmp 73) (.tmp 75) 35 5 (.int .u8 0) 1 rfl Tryd.underlying35 info5 rfl q81_ (by omega) (.slice Ao101 y130.length co101) y130 t133 _ _ _ (fun _ => True) (fun _ => False) rfl rfl ?aO ?aR (fun _ _ h => h) (fun _ h => h.elim) ?aF ?aB ?aS ?aL ?_; (case aR => repeat (first | exact (Kd.V_reads' HO135.out).2.2 | (with_reducible refine Kd.C_alloc ?_ _) | (with_reducible refine Kd.C_drewN ?_ _) | (with_reducible refine Kd.C_drew ?_))); (case aB => exact q0_); (case aF => exact (fun _ _ => trivial)); (case aO => exact q69_); (case aS => exact (below_size q0_)); (case aL => have := LMc92.out; omega); intro v137 w103 ho hb hg hat; rw [← Ny136.out] at ho; have n0_ := Aside0.mk (Kd.V_afterv (ok := (fun _ => True)) (by (with_reducible repeat (first | apply Kd.V_alloc | apply Kd.V_drewN | apply Kd.V_drew)); exact Kd.V_mono HO135.out (fun _ hk => ⟨trivial, hk⟩)) hg hat); have n1_ := Aside0.mk (hb); have n2_ := Aside0.mk (ho); clear HO135; clear HB; clear HO132; have HO135 := n0_; have HB := n1_; have HO138 := n2_; clear n0_ n1_ n2_; clear ho hb hg hat; obtain ⟨Ao105, co105, eo105⟩ := Kd.R_slice HO138.out; subst eo105))
          go_ret2
          exact ⟨_, by first | rfl | (simp [errW_none, errW_some] <;> rfl) | (simp [*, errW_none, errW_some] <;> rfl), by (with_reducible repeat (first | apply Kd.R_alloc | apply Kd.R_drewN | apply Kd.R_drew)); exact HO138.out, by repeat (first | (with_reducible first | exact HB.out | apply below_alloc | apply pw_below_drewN | apply below_drew1) | exact HB.out)⟩
        ·rw [if_neg c92] at H
         exact absurd H (by simp)
       ·rw [if_neg c90] at H
        exact absurd H (by simp)
 ·rw [if_neg c3] at H
  exact absurd H (by simp)
end Go.Proofs.YtgklipfeheohkaaDoor.P
