/- The law NameJoins (its narrowed form), walked. -/
import Derived.Test.YtafgfaimenccdaaDoorDepthW
import Derived.Test.YtafgfaimenccdaaDoorBackW
import Derived.Test.YtafgfaimenccdaaDoorBulk
import Derived.Test.YtafgfaimenccdaaDoorPx6
import Derived.Test.YtafgfaimenccdaaDoorPx7
namespace Go.Proofs.YtafgfaimenccdaaDoor.P
open Go.RowKit Go.Proofs.YtafgfaimenccdaaDoorW.PrintWords Go.Proofs.YtafgfaimenccdaaDoorW.PrintLast Go.Proofs.YtafgfaimenccdaaDoorW.PrintMore Go.Proofs.YtafgfaimenccdaaDoor.Sep
set_option linter.unusedVariables false
theorem refBelow_l0 (a b : List ByteArray) (hl : b.length < a.length) (ha : a.length ≤ 1000) : ∀ (n j k : Nat), b.length - j ≤ n → j ≤ b.length → n < k → cambiumref14_Below.l0 k a b (j : Int) = some (decide ((a.drop j).take (b.length - j) = b.drop j))
  | _, _, 0, _, _, h => absurd h (Nat.not_lt_zero _)
  | n, j, k + 1, hn, hj, hk => by
    unfold cambiumref14_Below.l0
    by_cases hlt : j < b.length
    · obtain ⟨m, rfl⟩ : ∃ m, n = m + 1 := ⟨n - 1, by omega⟩
      rw [if_pos (Int.ofNat_lt.2 hlt), if_pos (Int.natCast_nonneg j), if_pos (Int.ofNat_lt.2 (by omega)), rd_at b j hlt, rd_at a j (by omega), wr_ j (by omega), refBelow_l0 a b hl ha m (j + 1) k (by omega) hlt (by omega)]
      have hd : (a.drop j).take (b.length - j) = b.drop j ↔ a[j] = b[j] ∧ (a.drop (j + 1)).take (b.length - (j + 1)) = b.drop (j + 1) := by
        rw [List.drop_eq_getElem_cons (show j < a.length by omega), List.drop_eq_getElem_cons hlt, show b.length - j = (b.length - (j + 1)) + 1 from by omega, List.take_succ_cons, List.cons.injEq]
      by_cases h : a[j] = b[j]
      · rw [if_pos ((toList_eq2 _ _).2 h)]
        exact congrArg some (decide_eq_decide.2 ⟨fun q => hd.2 ⟨h, q⟩, fun q => (hd.1 q).2⟩)
      · rw [if_neg (fun q => h ((toList_eq2 _ _).1 q)), decide_eq_false (fun q => h (hd.1 q).1)]
    · rw [if_neg (by omega), List.drop_eq_nil_of_le (show b.length ≤ j by omega), show b.length - j = 0 from by omega]
      simp
theorem refBelow_is (a b : List ByteArray) (ha : a.length ≤ 1000) : cambiumref14_Below.f 2000 a b = some (belowR a b) := by
  unfold cambiumref14_Below.f belowR
  by_cases h : b.length < a.length
  · rw [if_neg (by omega)]
    have := refBelow_l0 a b h ha b.length 0 2000 (by omega) (Nat.zero_le _) (by omega)
    refine Eq.trans this ?_
    simp [h]
  · rw [if_pos (by omega)]
    simp [h]
theorem refJoin_l0 (l : List ByteArray) (hl : l.length ≤ 1000) : ∀ (n j k : Nat) (acc : ByteArray), l.length - j ≤ n → j ≤ l.length → n < k → acc.size + (l.length - j) + Bulk.total (l.drop j) ≤ 1099511627776 →
    cambiumref14_Join.l0 k l acc (j : Int) = some (acc ++ asB (Lib.joinTail [47] ((l.drop j).map (·.data.toList))))
  | _, _, 0, _, _, _, h, _ => absurd h (Nat.not_lt_zero _)
  | n, j, k + 1, acc, hn, hj, hk, hz => by
    unfold cambiumref14_Join.l0
    by_cases hlt : j < l.length
    · obtain ⟨m, rfl⟩ : ∃ m, n = m + 1 := ⟨n - 1, by omega⟩
      have hd := List.drop_eq_getElem_cons hlt
      rw [hd, Bulk.total_cons] at hz
      have hs : ((acc ++ (⟨#[47]⟩ : ByteArray)) ++ l[j]).size = acc.size + 1 + l[j].size := by
        rw [ByteArray.size_append, ByteArray.size_append]
        rfl
      have hs1 : (acc ++ (⟨#[47]⟩ : ByteArray)).size = acc.size + 1 := by rw [ByteArray.size_append]; rfl
      rw [if_pos (Int.ofNat_lt.2 hlt), if_pos (by omega), if_pos (Int.natCast_nonneg j), rd_at l j hlt, if_pos (by omega), wr_ j (by omega)]
      rw [refJoin_l0 l hl m (j + 1) k _ (by omega) hlt (by omega) (by rw [hs]; omega)]
      congr 1
      refine data_inj ?_
      rw [hd, List.map_cons, show ∀ (x : List UInt8) r, Lib.joinTail [47] (x :: r) = (47 :: x) ++ Lib.joinTail [47] r from fun x r => rfl]
      generalize Lib.joinTail [47] ((l.drop (j + 1)).map (·.data.toList)) = R
      simp [ByteArray.data_append, asB]
    · rw [if_neg (by omega), List.drop_eq_nil_of_le (by omega)]
      congr 1
      refine data_inj ?_
      simp [ByteArray.data_append, asB, Lib.joinTail]
theorem refJoin_is (a : ByteArray) (l : List ByteArray) (hl : l.length ≤ 1000) (hz : a.size + Bulk.total l ≤ 1048576) : cambiumref14_Join.f 2000 a l = some (pathR a l) := by
  unfold cambiumref14_Join.f
  have hs : ((⟨#[47]⟩ : ByteArray) ++ a).size = 1 + a.size := by rw [ByteArray.size_append]; rfl
  rw [if_pos (by omega)]
  refine Eq.trans (refJoin_l0 l hl l.length 0 2000 _ (by omega) (Nat.zero_le _) (by omega) (by rw [hs]; simp only [List.drop_zero]; omega)) ?_
  congr 1
  refine data_inj ?_
  unfold pathR gluR
  rw [List.map_cons, Lib.join_cons]
  simp [ByteArray.data_append, asB]
theorem glu_total (a : ByteArray) (l : List ByteArray) : (gluR (a :: l)).size = l.length + (a.size + Bulk.total l) := by
  rw [← size_is]
  unfold gluR
  rw [asB_data, List.map_cons, Lib.join_length, List.length_map]
  have e2 : ([47] : List UInt8).length = 1 := rfl
  rw [e2, Nat.one_mul, ← List.map_cons (f := fun x : ByteArray => x.data.toList)]
  congr 1
  unfold Lib.lens
  rw [← Bulk.total_cons]
  unfold Bulk.total
  rw [List.map_map]
  rw [show ((fun x : List UInt8 => x.length) ∘ fun x : ByteArray => x.data.toList) = fun x : ByteArray => x.size from funext fun x => size_is x]
set_option maxHeartbeats 16000000 in
set_option maxRecDepth 100000 in
theorem NameJoins_law (z0n : ByteArray) (z1A : Option Addr) (z1c : Nat) (z1l : (List ByteArray)) (z2A : Option Addr) (z2c : Nat) (z2l : (List ByteArray)) (w : World) (h0 : Aside0 (z0n.size ≤ maxLen)) (h1 : Aside0 (z1l.length ≤ z1c ∧ Kd.C Kd.string w z1A z1l.length z1l ∧ (z1l.length ≤ maxLen ∧ ∀ y0_ ∈ z1l, y0_.size ≤ maxLen))) (h2 : Aside0 (z2l.length ≤ z2c ∧ Kd.C Kd.string w z2A z2l.length z2l ∧ (z2l.length ≤ maxLen ∧ ∀ y0_ ∈ z2l, y0_.size ≤ maxLen))) (hL : Aside0 (laidMetH Tryd.prog Rows.nameJoinsUptoRow.laid w)) (hS : Aside0 (w.ShapedOpen Tryd.prog)) (hU : Aside0 (z0n.size + Bulk.total z1l + Bulk.total z2l ≤ 1048576)) :
    Calls Tryd.prog 9 #[.string z0n, .slice z1A z1l.length z1c, .slice z2A z2l.length z2c] w fun e w' => e = .returned (.bool true) ∧ Below w.heap.size w w' := by
  have K1 := Aside0.mk (shown14.st w (Tryd.laysM146.s1_3 w hS.out))
  obtain ⟨h11, h12, _⟩ := h1.out
  obtain ⟨h21, h22, _⟩ := h2.out
  have HC1 := Aside0.mk h12
  have HL1 := Aside0.mk h11
  have HC2 := Aside0.mk h22
  have HL2 := Aside0.mk h21
  clear h0 h1 h2 hL hS h11 h12 h21 h22
  go_enter Tryd.func9, Tryd.ntmps9
  go_wp2_with fail
  refine K1.out.mono ?_
  rintro e w1 ⟨rfl, hb⟩
  have HB1 := Aside0.mk hb
  replace HC1 := Aside0.mk (Kd.C_below HC1.out hb)
  replace HC2 := Aside0.mk (Kd.C_below HC2.out hb)
  clear hb K1
  go_wp2_with fail
  refine (few14.st z1A z1c z1l w1 HC1.out HL1.out).mono ?_
  rintro e w' ⟨rfl, rfl⟩
  obtain ⟨q1, q2, q3⟩ := few_row z1A z1c z1l w1 HC1.out HL1.out
  have ht := Bulk.total_take z1l 30
  obtain ⟨L, hL⟩ : ∃ L, z1l.take 30 = L := ⟨_, rfl⟩
  rw [hL] at q1 q2 q3 ht
  rw [hL]
  have HC := Aside0.mk q1
  have HCC := Aside0.mk q2
  have HLE := Aside0.mk q3
  have HT := Aside0.mk (show z0n.size + Bulk.total L ≤ 1048576 by have := hU.out; omega)
  clear q1 q2 q3 hL HC1 HL1 ht hU
  go_wp2_with fail
  refine (few14.st z2A z2c z2l w1 HC2.out HL2.out).mono ?_
  rintro e w' ⟨rfl, rfl⟩
  obtain ⟨q1, q2, q3⟩ := few_row z2A z2c z2l w1 HC2.out HL2.out
  obtain ⟨M, hM⟩ : ∃ L, z2l.take 30 = L := ⟨_, rfl⟩
  rw [hM] at q1 q2 q3
  rw [hM]
  have HD := Aside0.mk q1
  have HDC := Aside0.mk q2
  have HDE := Aside0.mk q3
  clear q1 q2 q3 hM HC2 HL2
  have HE := Aside0.mk (St.row_empty (enc := Value.string) (h1 := fun _ => rfl) (St.start w1) 9)
  have HG := Aside0.mk (show (gluR (z0n :: L)).size ≤ 1099511627776 by rw [glu_total]; have := HT.out; have := HLE.out; omega)
  have HRJ := Aside0.mk (refJoin_is z0n L (by have := HLE.out; omega) HT.out)
  obtain ⟨g, hg⟩ : ∃ g, belowR L M = g := ⟨_, rfl⟩
  have HBL := Aside0.mk (show name_Below.f 2000 L M = some g by rw [below_is _ _ (by have := HLE.out; omega), hg])
  have HRB := Aside0.mk (show cambiumref14_Below.f 2000 L M = some g by rw [refBelow_is _ _ (by have := HLE.out; omega), hg])
  clear hg
  by_cases hz : L.length = 0
  · obtain rfl : L = [] := List.eq_nil_of_length_eq_zero hz
    clear hz
    go_wp2_with (first
      | ((with_reducible refine gate_builtin (b := .append) (xs := #[.tmp 18, .tmp 19]) rfl ?_); at_builtin; refine St.append_rows (d := Kd.string) rfl (.tmp 18) (.tmp 19) 26 9 (.string ByteArray.empty) 16 rfl Tryd.underlying26 info_str rfl (by decide) (by decide) _ [] [] _ _ _ rfl rfl HE.out (Kd.C_below HC.out HE.out.below) (fun _ _ h => h) (show (([] : List ByteArray).length + ([] : List ByteArray).length) * 16 ≤ 140737488355328 from by have := HLE.out; simp at this ⊢; try omega) ?_; intro v6 w6 hs6; rw [List.nil_append] at hs6; obtain ⟨A6, c6, he6, hc6, hC6⟩ := hs6.row_reads; subst he6; have HS6 := Aside0.mk hs6; have HC6 := Aside0.mk hC6; have HL6 := Aside0.mk hc6; clear hs6 hc6 hC6))
    refine (name_Parent.none_ A6 c6 w6).mono ?_
    rintro e w2 ⟨rfl, hb⟩
    have HB2 := Aside0.mk (below_step HS6.out.below hb)
    clear hb
    go_wp2_with fail
    refine (name_Join.st z0n z1A z1c [] w2 (Kd.C_below HC.out HB2.out) HCC.out (by have := HLE.out; simp at this ⊢; try omega) HG.out).mono ?_
    rintro e wa ⟨rfl, hb⟩
    have HBa := Aside0.mk (below_step HB2.out hb)
    clear hb
    go_wp2_with fail
    refine (cambiumref14_Join.calls 2000 z0n z1A z1c [] (pathR z0n []) wa (Kd.C_below HC.out HBa.out) HCC.out HRJ.out).mono ?_
    rintro e wb ⟨rfl, hd⟩
    have HBb := Aside0.mk (below_step HBa.out hd.below)
    clear hd
    go_wp2_with fail
    refine (name_Below.calls 2000 z1A z1c [] z2A z2c M g wb (Kd.C_below HC.out HBb.out) HCC.out (Kd.C_below HD.out HBb.out) HDC.out HBL.out).mono ?_
    rintro e wc ⟨rfl, hd⟩
    have HBc := Aside0.mk (below_step HBb.out hd.below)
    clear hd
    go_wp2_with fail
    refine (cambiumref14_Below.calls 2000 z1A z1c [] z2A z2c M g wc (Kd.C_below HC.out HBc.out) HCC.out (Kd.C_below HD.out HBc.out) HDC.out HRB.out).mono ?_
    rintro e wd ⟨rfl, hd⟩
    have HBd := Aside0.mk (below_step HB1.out (below_step HBc.out hd.below))
    clear hd
    go_wp2_with fail
    go_ret
    exact ⟨rfl, HBd.out⟩
  · obtain ⟨n, hn⟩ : ∃ n, L.length = n + 1 := ⟨L.length - 1, by omega⟩
    have HN := Aside0.mk hn
    have z1 : decide ((L.length : Int) = 0) = false := decide_eq_false (by omega)
    have z2 : ((L.length : Int) == 0) = false := beq_false_of_ne (by omega)
    have z3 : decide (L.length = 0) = false := decide_eq_false hz
    have z4 : (L.length == 0) = false := beq_false_of_ne hz
    have z5 : wrap64 ((L.length : Int) - 1) = (n : Int) := by have := HLE.out; unfold wrap64; omega
    obtain ⟨i, hi, _⟩ := info_parts info_str
    have hcut := cut_to (P := Tryd.prog) 26 9 .i64 Tryd.underlying26 hi z1A L.length z1c (n : Int) (by omega) (by omega) HCC.out
    rw [Int.toNat_natCast] at hcut
    have HCUT := Aside0.mk hcut
    clear hn hz hi hcut
    go_wp2_with (first
      | ((with_reducible refine gate_builtin (b := .append) (xs := #[.tmp 18, .tmp 19]) rfl ?_); at_builtin; refine St.append_rows (d := Kd.string) rfl (.tmp 18) (.tmp 19) 26 9 (.string ByteArray.empty) 16 rfl Tryd.underlying26 info_str rfl (by decide) (by decide) _ [] L _ _ _ rfl rfl HE.out (Kd.C_below HC.out HE.out.below) (fun _ _ h => h) (show (([] : List ByteArray).length + (L).length) * 16 ≤ 140737488355328 from by have := HLE.out; simp at this ⊢; try omega) ?_; intro v6 w6 hs6; rw [List.nil_append] at hs6; obtain ⟨A6, c6, he6, hc6, hC6⟩ := hs6.row_reads; subst he6; have HS6 := Aside0.mk hs6; have HC6 := Aside0.mk hC6; have HL6 := Aside0.mk hc6; clear hs6 hc6 hC6))
    refine (name_Parent.some_ A6 c6 n L w6 HC6.out HL6.out (by have := HLE.out; omega) HN.out).mono ?_
    rintro e w2 ⟨A1, c1, rfl, hle, hC1, hb⟩
    have hlen : (L.take n).length = n := by have := HN.out; rw [List.length_take]; omega
    have HB2 := Aside0.mk (below_step HS6.out.below hb)
    have hCT := Kd.C_take (Kd.C_below HC.out HB2.out) (show n ≤ L.length by have := HN.out; omega)
    obtain ⟨ad, hA, hcell⟩ := Kd.at_string HC.out (n : Int) (Int.natCast_nonneg n) (by have := HN.out; omega)
    subst hA
    have hrd : rdOf ByteArray.empty L (n : Int) = L.getD n ByteArray.empty := by unfold rdOf; rw [Int.toNat_natCast]
    rw [hrd, Int.toNat_natCast] at hcell
    obtain ⟨x, hx⟩ : ∃ x, L.getD n ByteArray.empty = x := ⟨_, rfl⟩
    obtain ⟨T, hT⟩ : ∃ T, L.take n = T := ⟨_, rfl⟩
    rw [hx] at hcell
    rw [hT] at hlen hC1 hCT
    rw [hx]
    subst hlen
    have HCA := Aside0.mk hC1
    have HLA := Aside0.mk hle
    have HCT := Aside0.mk hCT
    have HX := Aside0.mk hcell
    have HTC := Aside0.mk (show T.length ≤ z1c by have := HN.out; have := HCC.out; omega)
    have HSS := Aside0.mk (show cambiumref14_SameNames.f 2000 T T = some true by rw [same_is _ _ (by have := HLE.out; have := HN.out; omega), decide_eq_true rfl])
    have hlt : (T.length : Int) < (L.length : Int) := by have := HN.out; omega
    have hcut := HCUT.out
    clear hb hle hC1 hCT hx hT hrd hcell
    go_wp2_with fail
    refine (cambiumref14_SameNames.calls 2000 A1 c1 T (some ad) z1c T true w2 HCA.out HLA.out HCT.out HTC.out HSS.out).mono ?_
    rintro e w3 ⟨rfl, hd⟩
    have HB3 := Aside0.mk (below_step HB2.out hd.below)
    have q := pw_cell_below HB3.out HX.out
    clear hd
    go_wp2_with fail
    refine (name_Join.st z0n (some ad) z1c L w3 (Kd.C_below HC.out HB3.out) HCC.out (by have := HLE.out; simp at this ⊢; try omega) HG.out).mono ?_
    rintro e wa ⟨rfl, hb⟩
    have HBa := Aside0.mk (below_step HB3.out hb)
    clear hb
    go_wp2_with fail
    refine (cambiumref14_Join.calls 2000 z0n (some ad) z1c L (pathR z0n L) wa (Kd.C_below HC.out HBa.out) HCC.out HRJ.out).mono ?_
    rintro e wb ⟨rfl, hd⟩
    have HBb := Aside0.mk (below_step HBa.out hd.below)
    clear hd
    go_wp2_with fail
    refine (name_Below.calls 2000 (some ad) z1c L z2A z2c M g wb (Kd.C_below HC.out HBb.out) HCC.out (Kd.C_below HD.out HBb.out) HDC.out HBL.out).mono ?_
    rintro e wc ⟨rfl, hd⟩
    have HBc := Aside0.mk (below_step HBb.out hd.below)
    clear hd
    go_wp2_with fail
    refine (cambiumref14_Below.calls 2000 (some ad) z1c L z2A z2c M g wc (Kd.C_below HC.out HBc.out) HCC.out (Kd.C_below HD.out HBc.out) HDC.out HRB.out).mono ?_
    rintro e wd ⟨rfl, hd⟩
    have HBd := Aside0.mk (below_step HB1.out (below_step HBc.out hd.below))
    clear hd
    go_wp2_with fail
    go_ret
    exact ⟨rfl, HBd.out⟩
end Go.Proofs.YtafgfaimenccdaaDoor.P
