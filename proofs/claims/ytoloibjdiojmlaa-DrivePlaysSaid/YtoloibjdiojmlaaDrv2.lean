/- Read, Write. -/
import Derived.Test.YtoloibjdiojmlaaDrv1
namespace Go.Proofs.Ytoloibjdiojmlaa.P
open Go.RowKit Go.Proofs.YtoloibjdiojmlaaW.PrintWords Go.Proofs.YtoloibjdiojmlaaW.PrintLast Go.Proofs.YtoloibjdiojmlaaW.PrintMore Go.Proofs.Ytoloibjdiojmlaa.Sep
set_option linter.unusedVariables false
attribute [local go_sem] max2_int min2_int max_two min_two max_three min_three max_four min_four
section
variable {w0 w : World} {ps : List HP} {g : Nat} {D : DV}
def ReadPost (w0 : World) (ps : List HP) (C : HP) (D : DV) (s : Int) (e : Ending) (w' : World) : Prop :=
  if D.off = true then e = .returned (.tuple #[.slice none 0 0, .int .i64 4]) ∧ St w0 w' (C :: ps)
  else if isS D s = false then e = .returned (.tuple #[.slice none 0 0, .int .i64 1]) ∧ St w0 w' (C :: ps)
  else ∃ h, e = .returned (.tuple #[.slice (some ⟨h, 0, none⟩) 256 256, .int .i64 0]) ∧ St w0 w' (row (Kd.int .u8) 66 (.slice (some ⟨h, 0, none⟩) 256 256) (lastS D s.toNat) :: C :: ps)
set_option maxHeartbeats 2000000 in
theorem drive_Read.st (h : St w0 w (drv g D :: ps)) (s : Int) :
    Calls Try.prog 16 #[.pointer (some ⟨g, 0, none⟩), .int .i64 s] w fun e w' => ReadPost w0 ps (drv g D) D s e w' := by
  have HH := Aside0.mk h
  obtain ⟨hp, ⟨A, c, b, m⟩, hs⟩ := drv_out h
  obtain ⟨k0, k1, k2, k3, k4⟩ := drv_cells hs
  have HP := Aside0.mk hp
  have HS := Aside0.mk hs
  clear h hs hp k3 k4
  cases ho : D.off with
  | true =>
    rw [ho] at k2
    have HO := Aside0.mk ho
    clear ho
    go_enter Try.func16, Try.ntmps16
    go_wp2
    go_ret2
    unfold ReadPost
    rw [if_pos HO.out]
    exact ⟨rfl, HH.out⟩
  | false =>
    rw [ho] at k2
    have HO := Aside0.mk (show ¬ D.off = true from by rw [ho]; decide)
    clear ho
    cases hi : isS D s with
    | false =>
      have HI := Aside0.mk hi
      clear hi
      go_enter Try.func16, Try.ntmps16
      go_wp2_with fail
      refine (drive_is.st HH.out s).mono ?_
      rintro e w' ⟨rfl, rfl⟩
      rw [HI.out]
      go_wp2
      go_ret2
      unfold ReadPost
      rw [if_neg HO.out, if_pos HI.out]
      exact ⟨rfl, HH.out⟩
    | true =>
      have HI := Aside0.mk hi
      obtain ⟨i, rfl, hin⟩ : ∃ i : Nat, s = i ∧ i < D.hs.length := by
        unfold isS at hi
        simp only [Bool.and_eq_true, decide_eq_true_eq] at hi
        exact ⟨s.toNat, by omega, by omega⟩
      obtain ⟨gA, rfl, hrA, htA, hsA, _⟩ := St.row_sec HS.out.swap i hin
      have HLS := Aside0.mk (show lastS D i = (D.hs.getD i [] :: look D.ts i).getLast (List.cons_ne_nil _ _) from by unfold lastS; rw [look_nat])
      obtain ⟨x0, hx0⟩ : ∃ x0, D.hs.getD i [] = x0 := ⟨_, rfl⟩
      rw [hx0] at hrA hsA HLS
      have HRA := Aside0.mk hrA
      have HSA := Aside0.mk hsA
      have h5 : (i : Int) < (D.hs.length : Int) := by omega
      obtain ⟨Z, hz0, hZ⟩ : ∃ Z : Array Value, (∀ W : World, (zeroValue 66).run Try.prog W = .ok (.agg Z) W) ∧ Z = (encB zSec).toArray := ⟨_, fun W => by kernel_rfl, rfl⟩
      have HZ := Aside0.mk hZ
      have HZS := Aside0.mk (show Z.size = 256 from by rw [hZ, List.size_toArray, encB_len]; exact zSec_ok.1)
      have hz1 := fun W : World => (show (zeroValue 60).run Try.prog W = .ok nilS W from by kernel_rfl)
      obtain ⟨v, hv, hd, hs2⟩ := St.map_take (HS.out.front 2) (i : Int)
      obtain ⟨A2, c2, hv2⟩ := (hs2.front 1).row_slice
      subst hv2
      obtain ⟨t, ht⟩ : ∃ t, look D.ts (i : Int) = t := ⟨_, rfl⟩
      dsimp only at hv hd hs2
      rw [ht] at hv hd hs2 HLS
      obtain ⟨n2, hn2⟩ : ∃ n2, t.length = n2 := ⟨_, rfl⟩
      rw [hn2] at hv hd hs2
      have HD := Aside0.mk hd
      have hb2 : n2 ≤ 9223372036854775807 := ((hs2.front 1).row_C).2.2.2.1
      have HV := Aside0.mk hv
      have HT := Aside0.mk ht
      have HX := Aside0.mk ((hs2.alloc_ Z 66))
      have HY := Aside0.mk (St.blk_row HX.out (encB x0).toArray)
      obtain ⟨j0, j1, j2, j3, j4⟩ := drv_cells (HY.out.front 3)
      clear hi htA hrA hsA hZ hv hd hs2 hx0 ht j0 j2 j3 j4 hin
      rcases Nat.eq_zero_or_pos n2 with h0 | h0
      · have HT0 := Aside0.mk (List.eq_nil_of_length_eq_zero (hn2.trans h0))
        subst h0
        clear hn2 hb2
        have h6 : decide ((0 : Nat) < 0) = false := rfl
        go_enter Try.func16, Try.ntmps16
        go_wp2_with fail
        refine (drive_is.st HH.out i).mono ?_
        rintro e w' ⟨rfl, rfl⟩
        rw [HI.out]
        go_wp2_with (first
          | ((with_reducible refine gate_dst (N := 24) rfl ?_); refine wpList_load_mid rfl 66 _ rfl gA (i * 256) rfl (encB x0) _ HRA.out Try.underlying66 rfl (by rw [encB_len, HSA.out.1]; kernel_rfl) ?_)
          | (refine Own.wpList_store_row rfl 66 _ _ rfl w.heap.size rfl (encB x0).toArray rfl 66 _ HX.out.blk_is (by rw [List.size_toArray, encB_len, HSA.out.1]; kernel_rfl) (by rw [List.size_toArray, encB_len, HSA.out.1, HZS.out]) (fun v hv => encB_one v (by simpa using hv)) ?_)
          | ((with_reducible refine gate_dst (N := 30) rfl ?_); refine wpList_lookup_at rfl (.tmp 28) (.tmp 29) rfl rfl (St.map_at (HY.out.front 1)) Try.underlying61 Try.underlying3 (hz1 _) (i : Int) rfl ?_; rw [HV.out]))
        go_ret2
        unfold ReadPost
        rw [if_neg HO.out, if_neg (by rw [HI.out]; decide)]
        refine ⟨w.heap.size, rfl, ?_⟩
        rw [Int.toNat_natCast, HLS.out]
        rw [show (x0 :: t).getLast (List.cons_ne_nil _ _) = x0 from by have q := HT0.out; simp [q]]
        have h1 := St.blk_bytes HY.out (by rw [HSA.out.1]; decide)
        rw [HSA.out.1] at h1
        have h2 := St.map_put (c' := look D.ts) (St.back 4 h1) HD.out (fun k => by
          split
          · next q => rw [q, HT.out]
          · rfl)
        exact (drv_in HP.out (p := ⟨some ⟨gA, 0, none⟩, c, b, m⟩) (St.back 2 h2)).swap
      · obtain ⟨k, hk⟩ : ∃ k, k + 1 = n2 := ⟨n2 - 1, by omega⟩
        obtain ⟨g2, rfl, hr2, _, hs1, _⟩ := St.row_sec (HY.out.front 2) k (by omega)
        obtain ⟨x1, hx1⟩ : ∃ x1, t.getD k [] = x1 := ⟨_, rfl⟩
        rw [hx1] at hr2 hs1
        have HR2 := Aside0.mk hr2
        have HS1 := Aside0.mk hs1
        have HLL := Aside0.mk (show (x0 :: t).getLast (List.cons_ne_nil _ _) = x1 from by
          have hne : t ≠ [] := fun q => by rw [q, List.length_nil] at hn2; omega
          rw [List.getLast_cons hne, List.getLast_eq_getElem, ← hx1, List.getD_eq_getElem?_getD, List.getElem?_eq_getElem (by omega)]
          simp only [Option.getD_some]
          congr 1
          omega)
        have h6 : (0 : Nat) < n2 := by omega
        have h7 : decide (0 < n2) = true := decide_eq_true h6
        have e1 : wrap64 ((n2 : Int) - 1) = (k : Int) := by unfold wrap64; omega
        have h8 : k < n2 := by omega
        clear hr2 hs1 hx1 hk hn2 hb2
        go_enter Try.func16, Try.ntmps16
        go_wp2_with fail
        refine (drive_is.st HH.out i).mono ?_
        rintro e w' ⟨rfl, rfl⟩
        rw [HI.out]
        go_wp2_with (first
          | ((with_reducible refine gate_dst (N := 24) rfl ?_); refine wpList_load_mid rfl 66 _ rfl gA (i * 256) rfl (encB x0) _ HRA.out Try.underlying66 rfl (by rw [encB_len, HSA.out.1]; kernel_rfl) ?_)
          | (refine Own.wpList_store_row rfl 66 _ _ rfl w.heap.size rfl (encB x0).toArray rfl 66 _ HX.out.blk_is (by rw [List.size_toArray, encB_len, HSA.out.1]; kernel_rfl) (by rw [List.size_toArray, encB_len, HSA.out.1, HZS.out]) (fun v hv => encB_one v (by simpa using hv)) ?_)
          | ((with_reducible refine gate_dst (N := 30) rfl ?_); refine wpList_lookup_at rfl (.tmp 28) (.tmp 29) rfl rfl (St.map_at (HY.out.front 1)) Try.underlying61 Try.underlying3 (hz1 _) (i : Int) rfl ?_; rw [HV.out])
          | ((with_reducible refine gate_dst (N := 39) rfl ?_); refine wpList_load_mid rfl 66 _ rfl g2 (k * 256) rfl (encB x1) _ HR2.out Try.underlying66 rfl (by rw [encB_len, HS1.out.1]; kernel_rfl) ?_)
          | (refine Own.wpList_store_row rfl 66 _ _ rfl w.heap.size rfl (encB x1).toArray rfl 66 _ HY.out.blk_is (by rw [List.size_toArray, encB_len, HS1.out.1]; kernel_rfl) (by rw [List.size_toArray, encB_len, HS1.out.1, List.size_toArray, encB_len, HSA.out.1]) (fun v hv => encB_one v (by simpa using hv)) ?_))
        go_ret2
        unfold ReadPost
        rw [if_neg HO.out, if_neg (by rw [HI.out]; decide)]
        refine ⟨w.heap.size, rfl, ?_⟩
        rw [Int.toNat_natCast, HLS.out]
        rw [HLL.out]
        have HW := St.blk_row HY.out (encB x1).toArray
        have h1 := St.blk_bytes HW (by rw [HS1.out.1]; decide)
        rw [HS1.out.1] at h1
        have h2 := St.map_put (c' := look D.ts) (St.back 4 h1) HD.out (fun k => by
          split
          · next q => rw [q, HT.out]
          · rfl)
        exact (drv_in HP.out (p := ⟨some ⟨gA, 0, none⟩, c, b, m⟩) (St.back 2 h2)).swap
end
end Go.Proofs.Ytoloibjdiojmlaa.P
