import Derived.Test.YtgklipfeheohkaaDoorPx0
namespace Go.Proofs.YtgklipfeheohkaaDoor.P
open Go.RowKit Go.Proofs.YtgklipfeheohkaaDoorW.PrintWords Go.Proofs.YtgklipfeheohkaaDoorW.PrintLast Go.Proofs.YtgklipfeheohkaaDoorW.PrintMore
attribute [local go_sem] max2_int min2_int max_two min_two max_three min_three max_four min_four   -- for this text's walks alone
set_option linter.unusedVariables false
set_option linter.unusedSimpArgs false
/-- A record as a tuple. -/
def recT (r : S37) : Int × ByteArray × ByteArray × Int × List Int := (r.f0, r.f1, r.f2, r.f3, r.f4)
theorem recT_inj : ∀ {l m : List S37}, l.map recT = m.map recT → l = m
 | [], [], _ => rfl
 | [], _ :: _, h => by cases h
 | _ :: _, [], h => by cases h
 | a :: l, b :: m, h => by
  rw [List.map_cons, List.map_cons, List.cons.injEq] at h
  obtain ⟨h1, h2⟩ := h
  rw [recT_inj h2]
  congr 1
  obtain ⟨a0, a1, a2, a3, a4⟩ := a
  obtain ⟨b0, b1, b2, b3, b4⟩ := b
  simp only [recT, Prod.mk.injEq] at h1
  obtain ⟨rfl, rfl, rfl, rfl, rfl⟩ := h1
  rfl
/-- Two rows of records that are the same: told for these alone. -/
def cambiumref19_Same.f (l0 l1 : List S37) : Option Bool := if l0.map recT = l1.map recT ∧ l0.length ≤ 1000000 then some true else none
set_option maxHeartbeats 8000000 in
set_option maxRecDepth 100000 in
theorem cambiumref19_Same.calls (A0 : Option Addr) (c0 : Nat) (l0 : List S37) (A1 : Option Addr) (c1 : Nat) (l1 : List S37) (r : Bool) (w : World) (hr0 : Kd.C k37 w A0 l0.length l0) (hc0 : l0.length ≤ c0) (hr1 : Kd.C k37 w A1 l1.length l1) (hc1 : l1.length ≤ c1) (h : cambiumref19_Same.f l0 l1 = some r) :
  Calls Tryd.prog 23 #[.slice A0 l0.length c0, .slice A1 l1.length c1] w fun e w' => e = .returned (.bool r) ∧ Below w.heap.size w w' := by
 unfold cambiumref19_Same.f at h
 split at h
 case isFalse => cases h
 rename_i hq
 obtain rfl := Option.some.inj h
 obtain rfl := recT_inj hq.1
 have HL := Aside0.mk hq.2
 have HR0 := Aside0.mk hr0
 have HR1 := Aside0.mk hr1
 obtain ⟨l, rfl⟩ : ∃ l, l = l0 := ⟨_, rfl⟩
 have HB0 := Aside0.mk (Below.refl w.heap.size w)
 clear h hq hr0 hr1 hc0 hc1
 go_enter Tryd.func23, Tryd.ntmps23
 go_wp2_with fail
 go_loopw [5, 6, 7] (fun i _ _ wr => ∃ j : Nat, i = .int .i64 j ∧ j ≤ l.length ∧ Aside0 (Below w.heap.size w wr)) (fun i _ _ _ => l.length - (intOf i).toNat)
 case atStart => exact ⟨0, rfl, Nat.zero_le _, HB0⟩
 case round =>
  obtain ⟨j, rfl, hj, HB⟩ := hrel
  by_cases hlt : j < l.length
  ·have h2 : (j : Int) < (l.length : Int) := Int.ofNat_lt.2 hlt
   have h1 : decide ((j : Int) < (l.length : Int)) = true := decide_eq_true h2
   obtain ⟨ad, A4, c4, rfl, k0, k1, k2, k3, k4, v0, v1⟩ := at_T37 (Kd.C_below HR0.out HB.out) (j : Int) (Int.natCast_nonneg j) h2
   obtain ⟨ad', B4, d4, rfl, q0, q1, q2, q3, q4, u0, u1⟩ := at_T37 (Kd.C_below HR1.out HB.out) (j : Int) (Int.natCast_nonneg j) h2
   rw [Int.toNat_natCast] at k0 k1 k2 k3 k4 q0 q1 q2 q3 q4
   obtain ⟨x, hx⟩ : ∃ x, rd_T37 l (j : Int) = x := ⟨_, rfl⟩
   rw [hx] at k0 k1 k2 k3 k4 q0 q1 q2 q3 q4 v0 v1 u0 u1
   have HV1 := Aside0.mk v1
   have HU1 := Aside0.mk u1
   have HLT := Aside0.mk hlt
   have wi : wrap64 ((j : Int) + 1) = ((j + 1 : Nat) : Int) := by have := HL.out; unfold wrap64; omega
   clear hx hj hlt v0 v1 u0 u1
   have b1 := below_alloc (Below.refl wr.heap.size wr) (.cells #[.int .i64 x.f0, .string x.f1, .string x.f2, .int .i64 x.f3, .slice A4 x.f4.length c4] 37)
   have HB2 := Aside0.mk (below_alloc b1 (.cells #[.int .i64 x.f0, .string x.f1, .string x.f2, .int .i64 x.f3, .slice B4 x.f4.length d4] 37))
   replace q0 := pw_cell_below b1 q0
   replace q1 := pw_cell_below b1 q1
   replace q2 := pw_cell_below b1 q2
   replace q3 := pw_cell_below b1 q3
   replace q4 := pw_cell_below b1 q4
   have hcv0 := Kd.C_string (P := Tryd.prog) (A := A4) (c := c4) Tryd.underlying35 Tryd.underlying5 Tryd.underlying9 (Kd.C_below HV1.out HB2.out)
   (try (have hcv0m := hcv0; simp only [Int.reduceToNat, List.length_take] at hcv0m))
   have hcv1 := Kd.C_string (P := Tryd.prog) (A := B4) (c := d4) Tryd.underlying35 Tryd.underlying5 Tryd.underlying9 (Kd.C_below HU1.out HB2.out)
   (try (have hcv1m := hcv1; simp only [Int.reduceToNat, List.length_take] at hcv1m))
   clear b1
   go_wp2_with fail
   go_roundw
   case rel => exact ⟨j + 1, by rw [wi], HLT.out, ⟨below_step HB.out HB2.out⟩⟩
   case measure =>
    rw [wi]
    have := HLT.out
    show l.length - (((j + 1 : Nat) : Int)).toNat < l.length - ((j : Nat) : Int).toNat
    rw [Int.toNat_natCast, Int.toNat_natCast]
    omega
  ·have h1 : decide ((j : Int) < (l.length : Int)) = false := decide_eq_false (by omega)
   have h1n : decide (j < l.length) = false := decide_eq_false hlt
   clear hlt hj
   go_wp2
   go_ret
   exact ⟨rfl, HB.out⟩
end Go.Proofs.YtgklipfeheohkaaDoor.P
