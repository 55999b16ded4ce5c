/- The law NameDepth, walked. -/
import Derived.Test.YtafgfaimenccdaaDoorFew14
namespace Go.Proofs.YtafgfaimenccdaaDoor.P
open Go.RowKit Go.Proofs.YtafgfaimenccdaaDoorW.PrintWords Go.Proofs.YtafgfaimenccdaaDoorW.PrintLast Go.Proofs.YtafgfaimenccdaaDoorW.PrintMore Go.Proofs.YtafgfaimenccdaaDoor.Sep
set_option linter.unusedVariables false
theorem below_self (a : List ByteArray) : belowR a a = false := below_not a a (Nat.le_refl _)
theorem below_long (a b : List ByteArray) : belowR (a ++ b) a = decide (0 < b.length) := by
  unfold belowR
  refine decide_eq_decide.2 ⟨fun h => by have := h.1; rw [List.length_append] at this; omega, fun h => ⟨by rw [List.length_append]; omega, by simp⟩⟩
theorem below_trans (a b c : List ByteArray) (h1 : belowR a b = true) (h2 : belowR b c = true) : belowR a c = true := by
  unfold belowR at *
  obtain ⟨p1, p2⟩ := of_decide_eq_true h1
  obtain ⟨q1, q2⟩ := of_decide_eq_true h2
  refine decide_eq_true ⟨by omega, ?_⟩
  rw [← p2, List.take_take, show min c.length b.length = c.length from by omega] at q2
  exact q2
theorem below_anti (a b : List ByteArray) (h1 : belowR a b = true) : belowR b a = false := by
  unfold belowR at h1
  exact below_not _ _ (by have := (of_decide_eq_true h1).1; omega)
/-- name.Below in a world behind this one. -/
theorem below_in {A0 A1 : Option Addr} {c0 c1 : Nat} {a b : List ByteArray} {w : World} (r : Bool) (h0 : Kd.C Kd.string w A0 a.length a) (h1 : a.length ≤ c0) (h2 : Kd.C Kd.string w A1 b.length b) (h3 : b.length ≤ c1) (h4 : a.length ≤ 1000) (hr : belowR a b = r) :
    ∀ W, Below w.heap.size w W → Calls Tryd.prog 17 #[.slice A0 a.length c0, .slice A1 b.length c1] W fun e w' => e = .returned (.bool r) ∧ Below w.heap.size w w' := by
  intro W hW
  refine (name_Below.calls 2000 A0 c0 a A1 c1 b r W (Kd.C_below h0 hW) h1 (Kd.C_below h2 hW) h3 (by rw [below_is _ _ h4, hr])).mono ?_
  rintro e w' ⟨rfl, hd⟩
  exact ⟨rfl, below_step hW hd.below⟩
set_option maxHeartbeats 16000000 in
set_option maxRecDepth 100000 in
theorem NameDepth_law (z0A : Option Addr) (z0c : Nat) (z0l : (List ByteArray)) (z1A : Option Addr) (z1c : Nat) (z1l : (List ByteArray)) (z2A : Option Addr) (z2c : Nat) (z2l : (List ByteArray)) (w : World) (h0 : Aside0 (z0l.length ≤ z0c ∧ Kd.C Kd.string w z0A z0l.length z0l ∧ (z0l.length ≤ maxLen ∧ ∀ y0_ ∈ z0l, y0_.size ≤ maxLen))) (h1 : Aside0 (z1l.length ≤ z1c ∧ Kd.C Kd.string w z1A z1l.length z1l ∧ (z1l.length ≤ maxLen ∧ ∀ y0_ ∈ z1l, y0_.size ≤ maxLen))) (h2 : Aside0 (z2l.length ≤ z2c ∧ Kd.C Kd.string w z2A z2l.length z2l ∧ (z2l.length ≤ maxLen ∧ ∀ y0_ ∈ z2l, y0_.size ≤ maxLen))) (hL : Aside0 (laidMetH Tryd.prog Rows.nameDepthRow.laid w)) (hS : Aside0 (w.ShapedOpen Tryd.prog)) :
    Calls Tryd.prog 5 #[.slice z0A z0l.length z0c, .slice z1A z1l.length z1c, .slice z2A z2l.length z2c] w fun e w' => e = .returned (.bool true) ∧ Below w.heap.size w w' := by
  have K1 := Aside0.mk (shown14.st w (Tryd.laysM146.s1_3 w hS.out))
  obtain ⟨h01, h02, _⟩ := h0.out
  obtain ⟨h11, h12, _⟩ := h1.out
  obtain ⟨h21, h22, _⟩ := h2.out
  have HC0 := Aside0.mk h02
  have HL0 := Aside0.mk h01
  have HC1 := Aside0.mk h12
  have HL1 := Aside0.mk h11
  have HC2 := Aside0.mk h22
  have HL2 := Aside0.mk h21
  clear h0 h1 h2 hL hS h01 h02 h11 h12 h21 h22
  go_enter Tryd.func5, Tryd.ntmps5
  go_wp2_with fail
  refine K1.out.mono ?_
  rintro e w1 ⟨rfl, hb⟩
  have HB1 := Aside0.mk hb
  replace HC0 := Aside0.mk (Kd.C_below HC0.out hb)
  replace HC1 := Aside0.mk (Kd.C_below HC1.out hb)
  replace HC2 := Aside0.mk (Kd.C_below HC2.out hb)
  clear hb K1
  go_wp2_with fail
  refine (few14.st z0A z0c z0l w1 HC0.out HL0.out).mono ?_
  rintro e w' ⟨rfl, rfl⟩
  obtain ⟨q1, q2, q3⟩ := few_row z0A z0c z0l w1 HC0.out HL0.out
  obtain ⟨a, ha⟩ : ∃ L, z0l.take 30 = L := ⟨_, rfl⟩
  rw [ha] at q1 q2 q3
  rw [ha]
  have HA := Aside0.mk q1
  have HAC := Aside0.mk q2
  have HAL := Aside0.mk q3
  clear q1 q2 q3 ha HC0 HL0
  go_wp2_with fail
  refine (few14.st z1A z1c z1l w1 HC1.out HL1.out).mono ?_
  rintro e w' ⟨rfl, rfl⟩
  obtain ⟨q1, q2, q3⟩ := few_row z1A z1c z1l w1 HC1.out HL1.out
  obtain ⟨b, hb⟩ : ∃ L, z1l.take 30 = L := ⟨_, rfl⟩
  rw [hb] at q1 q2 q3
  rw [hb]
  have HBB := Aside0.mk q1
  have HBC := Aside0.mk q2
  have HBL := Aside0.mk q3
  clear q1 q2 q3 hb HC1 HL1
  go_wp2_with fail
  refine (few14.st z2A z2c z2l w1 HC2.out HL2.out).mono ?_
  rintro e w' ⟨rfl, rfl⟩
  obtain ⟨q1, q2, q3⟩ := few_row z2A z2c z2l w1 HC2.out HL2.out
  obtain ⟨c, hc⟩ : ∃ L, z2l.take 30 = L := ⟨_, rfl⟩
  rw [hc] at q1 q2 q3
  rw [hc]
  have HCB := Aside0.mk q1
  have HCC := Aside0.mk q2
  have HCL := Aside0.mk q3
  clear q1 q2 q3 hc HC2 HL2
  have HE := Aside0.mk (St.row_empty (enc := Value.string) (h1 := fun _ => rfl) (St.start w1) 9)
  go_upto_region 6 with (first
    | ((with_reducible refine gate_builtin (b := .append) (xs := #[.tmp 16, .tmp 17]) rfl ?_); at_builtin; refine St.append_rows (d := Kd.string) rfl (.tmp 16) (.tmp 17) 26 9 (.string ByteArray.empty) 16 rfl Tryd.underlying26 info_str rfl (by decide) (by decide) _ [] a _ _ _ rfl rfl HE.out (Kd.C_below HA.out HE.out.below) (fun _ _ h => h) (show (([] : List ByteArray).length + a.length) * 16 ≤ 140737488355328 from by have := HAL.out; simp; omega) ?_; intro v6 w6 hs6; rw [List.nil_append] at hs6; obtain ⟨A6, c6, he6, hc6, hC6⟩ := hs6.row_reads; subst he6; have HS6 := Aside0.mk hs6; clear hs6 hc6 hC6)
    | ((with_reducible refine gate_builtin (b := .append) (xs := #[.tmp 18, .tmp 19]) rfl ?_); at_builtin; refine St.append_rows (d := Kd.string) rfl (.tmp 18) (.tmp 19) 26 9 (.string ByteArray.empty) 16 rfl Tryd.underlying26 info_str rfl (by decide) (by decide) _ a b _ _ _ rfl rfl HS6.out (Kd.C_below HBB.out HS6.out.below) (fun _ _ h => h) (show (a.length + b.length) * 16 ≤ 140737488355328 from by have := HAL.out; have := HBL.out; omega) ?_; intro v7 w7 hs7; obtain ⟨L, hLL⟩ : ∃ L, a ++ b = L := ⟨_, rfl⟩; rw [hLL] at hs7; have HLL := Aside0.mk hLL; obtain ⟨A7, c7, he7, hc7, hC7⟩ := hs7.row_reads; subst he7; have HS7 := Aside0.mk hs7; have HC7 := Aside0.mk hC7; have HL7 := Aside0.mk hc7; clear hs7 hc7 hC7 hLL))
  have hbl := HS7.out.below
  replace HA := Aside0.mk (Kd.C_below HA.out hbl)
  replace HBB := Aside0.mk (Kd.C_below HBB.out hbl)
  replace HCB := Aside0.mk (Kd.C_below HCB.out hbl)
  have hA := HAL.out
  have hB := HBL.out
  have hC := HCL.out
  have hL : L.length ≤ 1000 := by rw [← HLL.out, List.length_append]; omega
  obtain ⟨g, hg⟩ : ∃ g, decide (0 < b.length) = g := ⟨_, rfl⟩
  have g2 : decide (0 < (b.length : Int)) = g := by rw [← hg]; exact decide_eq_decide.2 (by omega)
  have HBW := Aside0.mk (below_step HB1.out hbl)
  have J1 := Aside0.mk (below_in (c0 := c7) (c1 := z0c) g HC7.out HL7.out HA.out HAC.out hL (by rw [← HLL.out, below_long, hg]))
  have J2 := Aside0.mk (below_in (c0 := z0c) (c1 := z0c) false HA.out HAC.out HA.out HAC.out (by omega) (below_self a))
  have HR := Aside0.mk (Below.refl w7.heap.size w7)
  cases hp : belowR a b with
  | false =>
    have J3 := Aside0.mk (below_in (c0 := z0c) (c1 := z1c) false HA.out HAC.out HBB.out HBC.out (by omega) hp)
    clear hbl hA hB hC hL hp
    go_wp2_with (go_at_call 17; (first | with_reducible refine (J1.out _ HR.out).mono ?_ | with_reducible refine (J2.out _ HR.out).mono ?_ | with_reducible refine (J3.out _ HR.out).mono ?_); rintro e w9 ⟨rfl, hb9⟩; replace HR := Aside0.mk hb9; clear hb9)
    go_ret
    exact ⟨rfl, below_step HBW.out HR.out⟩
  | true =>
    have hs := below_anti a b hp
    have J3 := Aside0.mk (below_in (c0 := z0c) (c1 := z1c) true HA.out HAC.out HBB.out HBC.out (by omega) hp)
    have J4 := Aside0.mk (below_in (c0 := z1c) (c1 := z0c) false HBB.out HBC.out HA.out HAC.out (by omega) hs)
    cases hq : belowR b c with
    | false =>
      have J5 := Aside0.mk (below_in (c0 := z1c) (c1 := z2c) false HBB.out HBC.out HCB.out HCC.out (by omega) hq)
      clear hbl hA hB hC hL hp hq hs
      go_wp2_with (go_at_call 17; (first | with_reducible refine (J1.out _ HR.out).mono ?_ | with_reducible refine (J2.out _ HR.out).mono ?_ | with_reducible refine (J3.out _ HR.out).mono ?_ | with_reducible refine (J4.out _ HR.out).mono ?_ | with_reducible refine (J5.out _ HR.out).mono ?_); rintro e w9 ⟨rfl, hb9⟩; replace HR := Aside0.mk hb9; clear hb9)
      go_ret
      exact ⟨rfl, below_step HBW.out HR.out⟩
    | true =>
      have hr := below_trans a b c hp hq
      have J5 := Aside0.mk (below_in (c0 := z1c) (c1 := z2c) true HBB.out HBC.out HCB.out HCC.out (by omega) hq)
      have J6 := Aside0.mk (below_in (c0 := z0c) (c1 := z2c) true HA.out HAC.out HCB.out HCC.out (by omega) hr)
      clear hbl hA hB hC hL hp hq hs hr
      go_wp2_with (go_at_call 17; (first | with_reducible refine (J1.out _ HR.out).mono ?_ | with_reducible refine (J2.out _ HR.out).mono ?_ | with_reducible refine (J3.out _ HR.out).mono ?_ | with_reducible refine (J4.out _ HR.out).mono ?_ | with_reducible refine (J5.out _ HR.out).mono ?_ | with_reducible refine (J6.out _ HR.out).mono ?_); rintro e w9 ⟨rfl, hb9⟩; replace HR := Aside0.mk hb9; clear hb9)
      go_ret
      exact ⟨rfl, below_step HBW.out HR.out⟩
end Go.Proofs.YtafgfaimenccdaaDoor.P
