/- The law NameParts, walked. -/
import Derived.Test.YtafgfaimenccdaaDoorFew14
namespace Go.Proofs.YtafgfaimenccdaaDoor.P
open Go.RowKit Go.Proofs.YtafgfaimenccdaaDoorW.PrintWords Go.Proofs.YtafgfaimenccdaaDoorW.PrintLast Go.Proofs.YtafgfaimenccdaaDoorW.PrintMore Go.Proofs.YtafgfaimenccdaaDoor.Sep
set_option linter.unusedVariables false
set_option maxHeartbeats 8000000 in
set_option maxRecDepth 100000 in
theorem NameParts_law (z0A : Option Addr) (z0c : Nat) (z0l : (List ByteArray)) (w : World) (h0 : Aside0 (z0l.length ≤ z0c ∧ Kd.C Kd.string w z0A z0l.length z0l ∧ (z0l.length ≤ maxLen ∧ ∀ y0_ ∈ z0l, y0_.size ≤ maxLen))) (hL : Aside0 (laidMetH Tryd.prog Rows.namePartsRow.laid w)) (hS : Aside0 (w.ShapedOpen Tryd.prog)) :
    Calls Tryd.prog 6 #[.slice z0A z0l.length z0c] w fun e w' => e = .returned (.bool true) ∧ Below w.heap.size w w' := by
  have K1 := Aside0.mk (shown14.st w (Tryd.laysM146.s1_3 w hS.out))
  obtain ⟨h1, h2, _⟩ := h0.out
  have HC0 := Aside0.mk h2
  have HL0 := Aside0.mk h1
  clear h0 hL hS h1 h2
  go_enter Tryd.func6, Tryd.ntmps6
  go_wp2_with fail
  refine K1.out.mono ?_
  rintro e w1 ⟨rfl, hb⟩
  have HB1 := Aside0.mk hb
  have HC1 := Aside0.mk (Kd.C_below HC0.out hb)
  clear hb K1 HC0
  go_wp2_with fail
  refine (few14.st z0A z0c z0l w1 HC1.out HL0.out).mono ?_
  rintro e w' ⟨rfl, rfl⟩
  obtain ⟨q1, q2, q3⟩ := few_row z0A z0c z0l w1 HC1.out HL0.out
  obtain ⟨L, hL⟩ : ∃ L, z0l.take 30 = L := ⟨_, rfl⟩
  rw [hL] at q1 q2 q3
  rw [hL]
  have HC := Aside0.mk q1
  have HCC := Aside0.mk q2
  have HLE := Aside0.mk q3
  clear q1 q2 q3 hL HC1 HL0
  by_cases hz : L.length = 0
  · obtain rfl : L = [] := List.eq_nil_of_length_eq_zero hz
    clear hz
    go_wp2_with fail
    refine (name_Parent.none_ z0A z0c w1).mono ?_
    rintro e w2 ⟨rfl, hb⟩
    have HB2 := Aside0.mk (below_step HB1.out hb)
    clear hb
    go_wp2_with fail
    go_ret
    exact ⟨rfl, HB2.out⟩
  · obtain ⟨n, hn⟩ : ∃ n, L.length = n + 1 := ⟨L.length - 1, by omega⟩
    have HN := Aside0.mk hn
    have z1 : decide ((L.length : Int) = 0) = false := decide_eq_false (by omega)
    have z2 : ((L.length : Int) == 0) = false := beq_false_of_ne (by omega)
    have z3 : decide (L.length = 0) = false := decide_eq_false hz
    have z4 : (L.length == 0) = false := beq_false_of_ne hz
    clear hn hz
    go_wp2_with fail
    refine (name_Parent.some_ z0A z0c n L w1 HC.out HCC.out (by have := HLE.out; omega) HN.out).mono ?_
    rintro e w2 ⟨A1, c1, rfl, hle, hC1, hb⟩
    have hlen : (L.take n).length = n := by have := HN.out; rw [List.length_take]; omega
    have HB2 := Aside0.mk (below_step HB1.out hb)
    have HC2 := Aside0.mk (Kd.C_below HC.out hb)
    have HTL := Aside0.mk (take_last L n HN.out)
    have HBT := Aside0.mk (show name_Below.f 2000 L (L.take n) = some true by rw [below_is _ _ (by have := HLE.out; omega), below_take L n HN.out])
    have HBN := Aside0.mk (show name_Below.f 2000 (L.take n) L = some false by rw [below_is _ _ (by have := HLE.out; rw [List.length_take]; omega), below_not _ _ (by have := HN.out; omega)])
    obtain ⟨x, hx⟩ : ∃ x, L.getD n ByteArray.empty = x := ⟨_, rfl⟩
    obtain ⟨T, hT⟩ : ∃ T, L.take n = T := ⟨_, rfl⟩
    rw [hx, hT] at HTL
    rw [hT] at hlen hC1 HBT HBN
    rw [hx]
    subst hlen
    have HCA := Aside0.mk hC1
    have HLA := Aside0.mk hle
    have HSS := Aside0.mk (show cambiumref14_SameNames.f 2000 L L = some true by rw [same_is _ _ (by have := HLE.out; omega), decide_eq_true rfl])
    have HTN := Aside0.mk (show T.length ≤ 30 by have := HLE.out; have := HN.out; omega)
    have HE := Aside0.mk (St.row_empty (enc := Value.string) (h1 := fun _ => rfl) (St.start w2) 9)
    clear hb HC hle hC1 hx hT
    go_wp2_with (first
      | ((with_reducible refine gate_builtin (b := .append) (xs := #[.tmp 25, .tmp 26]) rfl ?_); at_builtin; refine St.append_rows (d := Kd.string) rfl (.tmp 25) (.tmp 26) 26 9 (.string ByteArray.empty) 16 rfl Tryd.underlying26 info_str rfl (by decide) (by decide) _ [] T _ _ _ rfl rfl HE.out (Kd.C_below HCA.out HE.out.below) (fun _ _ h => h) (show (([] : List ByteArray).length + T.length) * 16 ≤ 140737488355328 from by have := HTN.out; simp; omega) ?_; intro v6 w6 hs6; rw [List.nil_append] at hs6; obtain ⟨A6, c6, he6, hc6, hC6⟩ := hs6.row_reads; subst he6; have HS6 := Aside0.mk hs6; clear hs6 hc6 hC6)
      | ((with_reducible refine gate_dst (N := 29) rfl ?_); refine Kd.R_lit Kd.string _ 9 ?hg (N := 29) ?hd (xs := ([x] : List ByteArray)) (inner := [.string x]) (ok := fun _ => True) (okp := fun _ => True) ?hr ?hp (fun _ hk => hk) trivial (Below.refl _ _) (Nat.le_refl _) (by simp) ?_; (case hd => rfl); (case hg => rfl); (case hr => first | (go_simp; done) | (go_simp; rfl)); (case hp => exact (Reps.one (show Kd.M Kd.string _ _ _ x [.string x] from rfl) (Reps.none _ _))); intro vl wl ho hb hg_ hnew_; clear hg_ hnew_; obtain ⟨Al, cl, hel, hcl, hCl⟩ := Kd.R_reads ho; rw [show ([x] : List ByteArray).length = 1 from rfl] at hel hCl; subst hel; have HSl := Aside0.mk (HS6.out.row_new hb ho).swap; have HCl := Aside0.mk hCl; clear ho hb hcl hCl)
      | ((with_reducible refine gate_builtin (b := .append) (xs := #[.tmp 27, .tmp 29]) rfl ?_); at_builtin; refine St.append_rows (d := Kd.string) rfl (.tmp 27) (.tmp 29) 26 9 (.string ByteArray.empty) 16 rfl Tryd.underlying26 info_str rfl (by decide) (by decide) _ T [x] _ _ _ rfl rfl HSl.out HCl.out (fun _ _ h => h) (show (T.length + 1) * 16 ≤ 140737488355328 from by have := HTN.out; omega) ?_; intro v7 w7 hs7; rw [HTL.out] at hs7; obtain ⟨A7, c7, he7, hc7, hC7⟩ := hs7.row_reads; subst he7; have HS7 := Aside0.mk hs7; have HC7 := Aside0.mk hC7; have HL7 := Aside0.mk hc7; clear hs7 hc7 hC7))
    have HC3 := Aside0.mk (Kd.C_below HC2.out HS7.out.below)
    have HCA3 := Aside0.mk (Kd.C_below HCA.out HS7.out.below)
    refine (cambiumref14_SameNames.calls 2000 A7 c7 L z0A z0c L true w7 HC7.out HL7.out HC3.out HCC.out HSS.out).mono ?_
    rintro e w8 ⟨rfl, hd⟩
    have HB8 := Aside0.mk (below_step (below_step HB2.out HS7.out.below) hd.below)
    have HC8 := Aside0.mk (Kd.C_below HC3.out hd.below)
    have HCA8 := Aside0.mk (Kd.C_below HCA3.out hd.below)
    clear hd
    go_wp2_with fail
    refine (name_Below.calls 2000 z0A z0c L A1 c1 T true w8 HC8.out HCC.out HCA8.out HLA.out HBT.out).mono ?_
    rintro e w9 ⟨rfl, hd⟩
    have HB9 := Aside0.mk (below_step HB8.out hd.below)
    have HC9 := Aside0.mk (Kd.C_below HC8.out hd.below)
    have HCA9 := Aside0.mk (Kd.C_below HCA8.out hd.below)
    clear hd
    go_wp2_with fail
    refine (name_Below.calls 2000 A1 c1 T z0A z0c L false w9 HCA9.out HLA.out HC9.out HCC.out HBN.out).mono ?_
    rintro e w10 ⟨rfl, hd⟩
    have HB10 := Aside0.mk (below_step HB9.out hd.below)
    clear hd
    go_wp2_with fail
    go_ret
    exact ⟨rfl, HB10.out⟩
end Go.Proofs.YtafgfaimenccdaaDoor.P
