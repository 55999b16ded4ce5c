/- The law NameBack, walked. -/
import Derived.Test.YtafgfaimenccdaaDoorFew14
import Derived.Test.YtafgfaimenccdaaDoorFormW
namespace Go.Proofs.YtafgfaimenccdaaDoor.P
open Go.RowKit Go.Proofs.YtafgfaimenccdaaDoorW.PrintWords Go.Proofs.YtafgfaimenccdaaDoorW.PrintLast Go.Proofs.YtafgfaimenccdaaDoorW.PrintMore Go.Proofs.YtafgfaimenccdaaDoor.Sep
set_option linter.unusedVariables false
theorem refLabel_big (s : ByteArray) (hs : s.size ≤ 9223372036854775807) : ∀ (k pos : Nat), pos ≤ s.size → GoodL s pos → s.size - pos < k → cambiumref07_Label.l0 k s (pos : Int) = some (labelR s)
  | 0, pos, _, _, h => absurd h (Nat.not_lt_zero _)
  | k + 1, pos, hp, hc, h => by
    unfold cambiumref07_Label.l0
    by_cases hlt : pos < s.size
    · rw [if_pos (Int.ofNat_lt.2 hlt), if_pos (Int.natCast_nonneg pos), bt_get s pos hlt, show wrap64 ((pos : Int) + 1) = ((pos + 1 : Nat) : Int) from by unfold wrap64; omega]
      cases ho : okL (s.get! pos) with
      | true =>
        rw [refLabel_big s hs k (pos + 1) hlt (good_step hc ho) (by omega)]
        simp only [okL, Bool.or_eq_true, decide_eq_true_eq, beq_iff_eq] at ho
        split <;> (repeat' split) <;> first | rfl | (exfalso; omega)
      | false =>
        rw [labelR_no hlt ho]
        simp only [okL, Bool.or_eq_false_iff, decide_eq_false_iff_not, beq_eq_false_iff_ne] at ho
        split <;> (repeat' split) <;> first | rfl | (exfalso; omega)
    · rw [if_neg (by omega)]
      rw [labelR_yes (fun j hj hjs => hc j (by omega) hjs)]
      by_cases h1 : 1 ≤ s.size
      · rw [if_pos (by omega), decide_eq_true h1, Bool.true_and]
        congr 1
        exact decide_eq_decide.2 (by omega)
      · rw [if_neg (by omega), decide_eq_false h1, Bool.false_and]
theorem refLabel_any (s : ByteArray) (hs : s.size ≤ 9223372036854775807) : cambiumref07_Label.f (s.size + 1) s = some (labelR s) :=
  refLabel_big s hs (s.size + 1) 0 (Nat.zero_le _) (fun j hj => absurd hj (Nat.not_lt_zero _)) (by omega)
theorem label_parts {s : ByteArray} (h : labelR s = true) : 1 ≤ s.size ∧ s.size ≤ 10 ∧ (47 : UInt8) ∉ s.data.toList := by
  unfold labelR at h
  rw [Bool.and_eq_true, Bool.and_eq_true] at h
  refine ⟨of_decide_eq_true h.2.1, of_decide_eq_true h.2.2, fun hm => ?_⟩
  obtain ⟨j, hj, hx⟩ := List.getElem_of_mem hm
  have hj' : j < s.size := by rw [Array.length_toList] at hj; exact hj
  have hg : s.get! j = 47 := by
    rw [get!_is s j hj']
    exact hx
  have := List.all_eq_true.1 h.1 j (List.mem_range.2 hj')
  rw [hg] at this
  exact absurd this (by decide)
theorem firstErr_zero : ∀ (T : List ByteArray), (∀ x ∈ T, validR x = 0) → firstErr T = 0
  | [], _ => rfl
  | y :: r, h => by
    unfold firstErr
    rw [if_pos (h y (by simp))]
    exact firstErr_zero r (fun x hx => h x (List.mem_cons_of_mem _ hx))
theorem parts_glu (a : ByteArray) (L : List ByteArray) (ha : labelR a = true) (hL : ∀ x ∈ L, validR x = 0) : partsB (gluR (a :: L)) = a :: L := by
  rw [partsB_cut]
  unfold gluR
  rw [asB_data, List.map_cons, cutL_of_join]
  · rw [← List.map_cons (f := fun x : ByteArray => x.data.toList), List.map_map]
    conv => rhs; rw [← List.map_id (a :: L)]
    exact List.map_congr_left fun x _ => asB_of x
  · intro y hy
    rcases List.mem_cons.1 hy with rfl | hy
    · exact (label_parts ha).2.2
    · obtain ⟨x, hx, rfl⟩ := List.mem_map.1 hy
      exact validR_slash (hL x hx)
theorem split_path (a : ByteArray) (L : List ByteArray) (ha : labelR a = true) (hL : ∀ x ∈ L, validR x = 0) (hs : (pathR a L).size ≤ 200) : splitR (pathR a L) = (a, L, 0) := by
  have hd := pathR_data a L
  have hp : Lib.hasPrefix (pathR a L).data.toList [47] = true := by rw [hd]; exact (pre_cons _ _).2 rfl
  have hr : restB (pathR a L) = gluR (a :: L) := by
    refine data_inj ?_
    unfold restB Lib.trimPrefix
    rw [if_pos hp, hd]
    rfl
  have hg := parts_glu a L ha hL
  unfold splitR
  rw [if_neg (by omega), if_neg (by rw [hp]; decide), hr, hg]
  have hne : ¬ gluR (a :: L) = ⟨#[]⟩ := by
    intro q
    rw [q] at hg
    have : partsB ⟨#[]⟩ = [⟨#[]⟩] := by decide +kernel
    rw [this] at hg
    injection hg with h1 h2
    have := (label_parts ha).1
    rw [← h1] at this
    exact absurd this (by decide)
  rw [if_neg hne, show (a :: L).getD 0 ⟨#[]⟩ = a from rfl, ha, if_neg (by decide), show (a :: L).drop 1 = L from rfl, firstErr_zero L hL, if_pos rfl]
theorem split_long (s : ByteArray) (h : 200 < s.size) : splitR s = (⟨#[]⟩, [], 7) := by
  unfold splitR
  rw [if_pos h]
theorem lens_le : ∀ (xs : List (List UInt8)) (m : Nat), (∀ x ∈ xs, x.length ≤ m) → Lib.lens xs ≤ m * xs.length
  | [], m, _ => Nat.zero_le _
  | x :: r, m, h => by
    have h1 := lens_le r m (fun y hy => h y (List.mem_cons_of_mem _ hy))
    have h2 := h x (by simp)
    simp only [Lib.lens, List.map_cons, List.sum_cons, List.length_cons] at h1 ⊢
    rw [Nat.mul_succ]
    omega
theorem glu_size (a : ByteArray) (L : List ByteArray) (m : Nat) (ha : a.size ≤ m) (hL : ∀ x ∈ L, x.size ≤ m) : (gluR (a :: L)).size ≤ (m + 1) * (L.length + 1) := by
  rw [← size_is]
  unfold gluR
  rw [asB_data, List.map_cons, Lib.join_length]
  have := lens_le ((a :: L).map (·.data.toList)) m (by
    intro x hx
    obtain ⟨y, hy, rfl⟩ := List.mem_map.1 hx
    rw [size_is]
    rcases List.mem_cons.1 hy with rfl | hy
    · exact ha
    · exact hL y hy)
  rw [List.map_cons, List.length_cons, List.length_map] at this
  rw [List.length_map]
  have e : (m + 1) * (L.length + 1) = m * (L.length + 1) + (L.length + 1) := by rw [Nat.add_mul, Nat.one_mul]
  have e2 : ([47] : List UInt8).length = 1 := rfl
  rw [e2, e]
  omega
/-- Whether the label and the first j names may be. -/
def mayR (a : ByteArray) (L : List ByteArray) (j : Nat) : Bool := labelR a && (L.take j).all fun x => validR x == 0
theorem mayR_succ (a : ByteArray) (L : List ByteArray) (j : Nat) (h : j < L.length) : mayR a L (j + 1) = (mayR a L j && (validR L[j] == 0)) := by
  unfold mayR
  rw [List.take_succ_eq_append_getElem h, List.all_append, Bool.and_assoc]
  simp
theorem mayR_all {a : ByteArray} {L : List ByteArray} {j : Nat} (hj : L.length ≤ j) (h : mayR a L j = true) : labelR a = true ∧ ∀ x ∈ L, validR x = 0 := by
  unfold mayR at h
  rw [List.take_of_length_le hj, Bool.and_eq_true] at h
  exact ⟨h.1, fun x hx => by simpa using List.all_eq_true.1 h.2 x hx⟩
set_option maxHeartbeats 16000000 in
set_option maxRecDepth 100000 in
theorem NameBack_law (z0n : ByteArray) (z1A : Option Addr) (z1c : Nat) (z1l : (List ByteArray)) (w : World) (h0 : Aside0 (z0n.size ≤ maxLen)) (h1 : Aside0 (z1l.length ≤ z1c ∧ Kd.C Kd.string w z1A z1l.length z1l ∧ (z1l.length ≤ maxLen ∧ ∀ y0_ ∈ z1l, y0_.size ≤ maxLen))) (hL : Aside0 (laidMetH Tryd.prog Rows.nameBackRow.laid w)) (hS : Aside0 (w.ShapedOpen Tryd.prog)) :
    Calls Tryd.prog 7 #[.string z0n, .slice z1A z1l.length z1c] w fun e w' => e = .returned (.bool true) ∧ Below w.heap.size w w' := by
  have HM := Aside0.mk (Tryd.laysM146.s1_3 w hS.out)
  have K1 := Aside0.mk (shown14.st w HM.out)
  obtain ⟨h11, h12, _⟩ := h1.out
  have HC1 := Aside0.mk h12
  have HL1 := Aside0.mk h11
  have HZ := Aside0.mk (show z0n.size ≤ 9223372036854775807 by have := h0.out; simp only [maxLen] at this; omega)
  clear h0 h1 hL hS h11 h12
  go_enter Tryd.func7, Tryd.ntmps7
  go_wp2_with fail
  refine K1.out.mono ?_
  rintro e w1 ⟨rfl, hb⟩
  have HB1 := Aside0.mk hb
  replace HC1 := Aside0.mk (Kd.C_below HC1.out hb)
  replace HM := Aside0.mk (HM.out.imp fun m h => pw_cell_below hb h)
  clear hb K1
  go_wp2_with fail
  refine (few14.st z1A z1c z1l w1 HC1.out HL1.out).mono ?_
  rintro e w' ⟨rfl, rfl⟩
  obtain ⟨q1, q2, q3⟩ := few_row z1A z1c z1l w1 HC1.out HL1.out
  obtain ⟨L, hL⟩ : ∃ L, z1l.take 30 = L := ⟨_, rfl⟩
  rw [hL] at q1 q2 q3
  rw [hL]
  have HC := Aside0.mk q1
  have HCC := Aside0.mk q2
  have HLE := Aside0.mk q3
  clear q1 q2 q3 hL HC1 HL1
  go_wp2_with fail
  refine (cambiumref07_Label.calls (z0n.size + 1) z0n (labelR z0n) w1 (refLabel_any z0n HZ.out)).mono ?_
  rintro e w2 ⟨rfl, hd⟩
  have HB2 := Aside0.mk (below_step HB1.out hd.below)
  have HC2 := Aside0.mk (Kd.C_below HC.out hd.below)
  have HM2 := Aside0.mk (HM.out.imp fun m h => pw_cell_below hd.below h)
  clear hd HM
  go_wp2_with fail
  go_loopw [6, 7] (fun m i wr => ∃ j : Nat, m = .bool (mayR z0n L j) ∧ i = .int .i64 j ∧ j ≤ L.length ∧ Aside0 (Below w2.heap.size w2 wr)) (fun _ i _ => L.length - (intOf i).toNat)
  case atStart => exact ⟨0, by simp [mayR], rfl, Nat.zero_le _, ⟨Below.refl _ _⟩⟩
  case round =>
    obtain ⟨j, rfl, rfl, hj, HB4⟩ := hrel
    rename_i wr
    by_cases hlt : j < L.length
    · have l2 : (j : Int) < (L.length : Int) := Int.ofNat_lt.2 hlt
      have l1 : decide ((j : Int) < (L.length : Int)) = true := decide_eq_true l2
      have HM1 := mayR_succ z0n L j hlt
      have wi : wrap64 ((j : Int) + 1) = ((j + 1 : Nat) : Int) := wr_ j (by have := HLE.out; omega)
      have HLT := Aside0.mk hlt
      have HMS := Aside0.mk (show L.length - (((j + 1 : Nat) : Int)).toNat < L.length - ((j : Nat) : Int).toNat by
        rw [Int.toNat_natCast, Int.toNat_natCast]
        omega)
      cases hm : mayR z0n L j with
      | false =>
        rw [hm, Bool.false_and] at HM1
        have HQ := Aside0.mk HM1
        clear HM1 hm hj
        go_wp2_with fail
        go_roundw
        case rel => exact ⟨j + 1, by rw [HQ.out], by rw [wi], HLT.out, HB4⟩
        case measure =>
          rw [wi]
          exact HMS.out
      | true =>
        rw [hm, Bool.true_and] at HM1
        obtain ⟨ad, rfl, hc⟩ := Kd.at_string (Kd.C_below HC2.out HB4.out) (j : Int) (Int.natCast_nonneg j) l2
        rw [Int.toNat_natCast, rd_at L j hlt] at hc
        obtain ⟨y, hy⟩ : ∃ y, L[j] = y := ⟨_, rfl⟩
        rw [hy] at hc HM1
        obtain ⟨v, hv⟩ : ∃ v, validR y = v := ⟨_, rfl⟩
        have HK := name_Valid.calls y wr
        rw [hv] at HK HM1
        have HKK := Aside0.mk HK
        obtain ⟨g, hg⟩ : ∃ g, (v == 0) = g := ⟨_, rfl⟩
        rw [hg] at HM1
        have g2 : decide (v = 0) = g := by rw [← hg]; rfl
        have HQ := Aside0.mk HM1
        clear hy hv HK HM1 hm hj hlt
        go_wp2_with (go_at_call 11; refine HKK.out.mono ?_; rintro e w5 ⟨rfl, hb5⟩)
        go_roundw
        case rel => exact ⟨j + 1, by rw [HQ.out], by rw [wi], HLT.out, ⟨below_step HB4.out hb5⟩⟩
        case measure =>
          rw [wi]
          exact HMS.out
    · have l1 : decide ((j : Int) < (L.length : Int)) = false := decide_eq_false (by omega)
      have l1n : decide (j < L.length) = false := decide_eq_false hlt
      have HB5 := Aside0.mk (below_step HB2.out HB4.out)
      cases hm : mayR z0n L j with
      | false =>
        clear hm hj hlt
        go_wp2_with fail
        go_ret
        exact ⟨rfl, HB5.out⟩
      | true =>
        obtain ⟨hl, hv⟩ := mayR_all (by omega) hm
        have HC4 := Aside0.mk (Kd.C_below HC2.out HB4.out)
        have hgz := glu_size z0n L 20 (by have := (label_parts hl).2.1; omega) (fun x hx => validR_le (hv x hx))
        have hgz2 : (20 + 1) * (L.length + 1) ≤ 1000 := by have := HLE.out; omega
        have HK := Aside0.mk (name_Join.st z0n z1A z1c L wr HC4.out HCC.out (by have := HLE.out; omega) (by omega))
        have hsz : (pathR z0n L).size ≤ 1001 := by
          unfold pathR
          rw [ByteArray.size_append]
          have : (⟨#[47]⟩ : ByteArray).size = 1 := rfl
          omega
        have hs1 : (pathR z0n L).size ≤ 200 → splitR (pathR z0n L) = (z0n, L, 0) := split_path z0n L hl hv
        have hs2 := split_long (pathR z0n L)
        have hi := split_is (pathR z0n L)
        have HM5 := Aside0.mk (HM2.out.imp fun m h => pw_cell_below HB4.out h)
        obtain ⟨s, hs⟩ : ∃ s, pathR z0n L = s := ⟨_, rfl⟩
        rw [hs] at HK hsz hs1 hs2 hi
        clear hl hv hm hgz hgz2 hj hlt hs
        by_cases hc : s.size ≤ 200
        · rw [hs1 hc] at hi
          have HI := Aside0.mk hi
          have c1 : decide ((s.size : Int) > 200) = false := decide_eq_false (by omega)
          have c2 : decide (200 < s.size) = false := decide_eq_false (by omega)
          have HSS := Aside0.mk (show cambiumref14_SameNames.f 2000 L L = some true by rw [same_is _ _ (by have := HLE.out; omega), decide_eq_true rfl])
          clear hs1 hs2 hi hc hsz
          go_wp2_with fail
          refine HK.out.mono ?_
          rintro e w6 ⟨rfl, hb⟩
          have HB6 := Aside0.mk (below_step HB5.out hb)
          have HM6 := Aside0.mk (HM5.out.imp fun m h => pw_cell_below hb h)
          have HC6 := Aside0.mk (Kd.C_below HC4.out hb)
          clear hb
          go_wp2_with fail
          refine (name_Split.calls 2000 s z0n L 0 w6 HM6.out HI.out).mono ?_
          rintro e w7 ⟨A7, c7, rfl, hcc, hC, hb⟩
          have HB7 := Aside0.mk (below_step HB6.out hb)
          have HC7 := Aside0.mk (Kd.C_below HC6.out hb)
          have HA7 := Aside0.mk hC
          have HL7 := Aside0.mk hcc
          clear hb hC hcc
          go_wp2_with fail
          refine (cambiumref14_SameNames.calls 2000 z1A z1c L A7 c7 L true w7 HC7.out HCC.out HA7.out HL7.out HSS.out).mono ?_
          rintro e w8 ⟨rfl, hd⟩
          have HB8 := Aside0.mk (below_step HB7.out hd.below)
          clear hd
          go_wp2_with fail
          go_ret
          exact ⟨rfl, HB8.out⟩
        · rw [hs2 (by omega)] at hi
          have HI := Aside0.mk hi
          have c1 : decide ((s.size : Int) > 200) = true := decide_eq_true (by omega)
          have c2 : decide (200 < s.size) = true := decide_eq_true (by omega)
          clear hs1 hs2 hi hc hsz
          go_wp2_with fail
          refine HK.out.mono ?_
          rintro e w6 ⟨rfl, hb⟩
          have HB6 := Aside0.mk (below_step HB5.out hb)
          have HM6 := Aside0.mk (HM5.out.imp fun m h => pw_cell_below hb h)
          clear hb
          go_wp2_with fail
          refine (name_Split.calls 2000 s ⟨#[]⟩ [] 7 w6 HM6.out HI.out).mono ?_
          rintro e w7 ⟨A7, c7, rfl, hcc, hC, hb⟩
          have HB7 := Aside0.mk (below_step HB6.out hb)
          clear hb hC hcc
          go_wp2_with fail
          go_ret
          exact ⟨rfl, HB7.out⟩
end Go.Proofs.YtafgfaimenccdaaDoor.P
