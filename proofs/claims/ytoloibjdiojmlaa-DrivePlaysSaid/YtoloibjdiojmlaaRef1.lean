/- The reference: there, step, Fuse, Read, Cached. -/
import Derived.Test.YtoloibjdiojmlaaRef0
namespace Go.Proofs.Ytoloibjdiojmlaa.P
open Go.RowKit Go.Proofs.YtoloibjdiojmlaaW.PrintWords Go.Proofs.YtoloibjdiojmlaaW.PrintLast Go.Proofs.YtoloibjdiojmlaaW.PrintMore Go.Proofs.Ytoloibjdiojmlaa.Sep
set_option linter.unusedVariables false
set_option linter.unusedSimpArgs false
attribute [local go_sem] max2_int min2_int max_two min_two max_three min_three max_four min_four
section
variable {w0 w : World} {ps : List HP} {g : Nat} {D : DV}
theorem ref_there.st (h : St w0 w (rdr g D :: ps)) (s : Int) :
    Calls Try.prog 34 #[.pointer (some ⟨g, 0, none⟩), .int .i64 s] w fun e w' => e = .returned (.bool (isS D s)) ∧ w = w' := by
  obtain ⟨hp, ⟨A, c, vs⟩, hs⟩ := rdr_out h
  have k0 := (rdr_cells hs).1
  clear h hs hp
  unfold isS
  generalize D.hs.length = n at *
  by_cases h1 : 0 ≤ s
  · have h2 : decide (s ≥ 0) = true := decide_eq_true h1
    have h3 : decide (0 ≤ s) = true := decide_eq_true h1
    rw [h3]
    go_enter Try.func34, Try.ntmps34
    go_wp2
    go_ret
    exact ⟨by simp, rfl⟩
  · have h2 : decide (s ≥ 0) = false := decide_eq_false h1
    have h3 : decide (0 ≤ s) = false := decide_eq_false h1
    rw [h3]
    go_enter Try.func34, Try.ntmps34
    go_wp2
    go_ret
    exact ⟨by simp, rfl⟩
theorem rowsD_step (D : DV) : rowsD (stepD D) = rowsD D := by unfold rowsD; rw [stepD_hs, stepD_ts]
theorem rdr_put (hp : DOk D) {A : Option Addr} {n c : Nat} {vs : List Tri} (hn : D.hs.length = n) (h : St w0 w (blk g (rCells A n c D) 58 :: row kSl 68 (.slice A n c) vs :: spr EG vs (rowsD D) none :: ps)) : St w0 w (rdr g D :: ps) := by
  subst hn
  exact rdr_in hp (p := ⟨A, c, vs⟩) h
set_option maxHeartbeats 4000000 in
theorem ref_step.st (h : St w0 w (rdr g D :: ps)) (hst : D.steps < 1000000) :
    Calls Try.prog 35 #[.pointer (some ⟨g, 0, none⟩)] w fun e w' => e = .returned (.int .i64 (stepE D)) ∧ St w0 w' (rdr g (stepD D) :: ps) := by
  obtain ⟨hp, ⟨A, c, vs⟩, hs⟩ := rdr_out h
  have HP := Aside0.mk (stepD_ok hp)
  have HF := Aside0.mk hp.2.2.1
  have HR := Aside0.mk (rowsD_step D)
  have HH := Aside0.mk (stepD_hs D)
  obtain ⟨k0, k1, k2, k3, k4⟩ := rdr_cells hs
  have f1 : w.frozen? ⟨g, 1, none⟩ = false := blk_frozen hs.blk_is 1
  have f3 : w.frozen? ⟨g, 3, none⟩ = false := blk_frozen hs.blk_is 3
  have f4 : w.frozen? ⟨g, 4, none⟩ = false := blk_frozen hs.blk_is 4
  have e1 := Aside0.mk (show wrap64 ((D.steps : Int) + 1) = ((D.steps + 1 : Nat) : Int) from by unfold wrap64; omega)
  obtain ⟨n, hn⟩ : ∃ n, D.hs.length = n := ⟨_, rfl⟩
  have HN := Aside0.mk (show (stepD D).hs.length = n from by rw [HH.out]; exact hn)
  unfold rdrM at hs
  dsimp only at hs k0
  rw [hn] at hs k0
  rw [← HR.out] at hs
  have HS := Aside0.mk hs
  clear h hs hp hn HR HH
  cases ho : D.off with
  | true =>
    have HE := Aside0.mk (show stepE D = 4 from by unfold stepE; rw [if_pos (Or.inl ho)])
    have HC := Aside0.mk (show rCells A n c D = rCells A n c (stepD D) from by unfold stepD; rw [if_pos (Or.inl ho)]; unfold rCells; rw [ho])
    rw [ho] at k1
    clear ho
    rw [HE.out]
    go_enter Try.func35, Try.ntmps35
    go_wp2
    go_ret
    exact ⟨rfl, rdr_put HP.out HN.out (by rw [← HC.out]; exact HS.out)⟩
  | false =>
    rw [ho] at k1
    by_cases hf : D.fuse = 0
    · have HE := Aside0.mk (show stepE D = 4 from by unfold stepE; rw [if_pos (Or.inr hf)])
      have HC := Aside0.mk (show (rCells A n c D).setIfInBounds 1 (.bool true) = rCells A n c (stepD D) from by unfold stepD; rw [if_pos (Or.inr hf)]; rfl)
      rw [hf] at k2 k3
      have k2 : w.cell? ⟨g, 2, none⟩ = some (.bool true) := k2
      have k3 : w.cell? ⟨g, 3, none⟩ = some (.int .i64 0) := k3
      have HB := Aside0.mk (HS.out.blk_set 1 (.bool true))
      rw [HC.out] at HB
      clear ho hf
      rw [HE.out]
      go_enter Try.func35, Try.ntmps35
      go_wp2
      go_ret
      exact ⟨rfl, rdr_put HP.out HN.out HB.out⟩
    · have hne : ¬ (D.off = true ∨ D.fuse = 0) := by rw [ho]; simp [hf]
      have HE := Aside0.mk (show stepE D = 0 from by unfold stepE; rw [if_neg hne])
      by_cases hp : 0 < D.fuse
      · have hb : decide (0 ≤ D.fuse) = true := decide_eq_true (by omega)
        obtain ⟨fz, hfz⟩ : ∃ fz, D.fuse = fz := ⟨_, rfl⟩
        have HC := Aside0.mk (show ((rCells A n c D).setIfInBounds 3 (.int .i64 (fz - 1))).setIfInBounds 4 (.int .i64 ((D.steps + 1 : Nat) : Int)) = rCells A n c (stepD D) from by
          unfold stepD
          rw [if_neg hne, if_pos hp]
          show #[_, _, Value.bool (decide (0 ≤ D.fuse)), Value.int .i64 (fz - 1), _] = #[_, _, Value.bool (decide (0 ≤ D.fuse - 1)), Value.int .i64 (max (D.fuse - 1) 0), _]
          rw [hb, show decide (0 ≤ D.fuse - 1) = true from decide_eq_true (by omega), show max (D.fuse - 1) 0 = fz - 1 from by omega])
        have HB := Aside0.mk (HS.out.blk_set 3 (.int .i64 (fz - 1)))
        have j4 := blk_cell HB.out.blk_is 4
        have HB2 := Aside0.mk (HB.out.blk_set 4 (.int .i64 ((D.steps + 1 : Nat) : Int)))
        rw [HC.out] at HB2
        rw [hb] at k2
        rw [show max D.fuse 0 = fz from by omega] at k3
        have h5 : (fz == 0) = false := by simp; omega
        have h5p : ¬ fz = 0 := by omega
        have e2 : wrap64 (fz - 1) = fz - 1 := by have := HF.out; rw [hfz] at this; unfold wrap64; omega
        have e1 := e1.out
        clear ho hf hp hb hfz hne
        rw [HE.out]
        go_enter Try.func35, Try.ntmps35
        go_wp2
        go_ret
        exact ⟨rfl, rdr_put HP.out HN.out HB2.out⟩
      · have hb : decide (0 ≤ D.fuse) = false := decide_eq_false (by omega)
        have HC := Aside0.mk (show (rCells A n c D).setIfInBounds 4 (.int .i64 ((D.steps + 1 : Nat) : Int)) = rCells A n c (stepD D) from by
          unfold stepD
          rw [if_neg hne, if_neg hp]
          rfl)
        have HB2 := Aside0.mk (HS.out.blk_set 4 (.int .i64 ((D.steps + 1 : Nat) : Int)))
        rw [HC.out] at HB2
        rw [hb] at k2
        have e1 := e1.out
        clear ho hf hp hb hne
        rw [HE.out]
        go_enter Try.func35, Try.ntmps35
        go_wp2
        go_ret
        exact ⟨rfl, rdr_put HP.out HN.out HB2.out⟩
set_option maxHeartbeats 2000000 in
theorem ref_Fuse.st (h : St w0 w (rdr g D :: ps)) (n : Int) (hn : n ≤ 9223372036854775807) :
    Calls Try.prog 26 #[.pointer (some ⟨g, 0, none⟩), .int .i64 n] w fun e w' => e = .returned (.tuple #[]) ∧ St w0 w' (rdr g (fuseD D n) :: ps) := by
  obtain ⟨hp, ⟨A, c, vs⟩, hs⟩ := rdr_out h
  have HP := Aside0.mk (fuseD_ok hp n hn)
  have f2 : w.frozen? ⟨g, 2, none⟩ = false := blk_frozen hs.blk_is 2
  have f3 : w.frozen? ⟨g, 3, none⟩ = false := blk_frozen hs.blk_is 3
  have k2 := blk_cell hs.blk_is 2
  have k3 := blk_cell hs.blk_is 3
  have HB := Aside0.mk ((hs.blk_set 2 (.bool (decide (0 ≤ n)))).blk_set 3 (.int .i64 (max n 0)))
  have HC := Aside0.mk (show ((rCells A D.hs.length c D).setIfInBounds 2 (.bool (decide (0 ≤ n)))).setIfInBounds 3 (.int .i64 (max n 0)) = rCells A D.hs.length c (fuseD D n) from by
    show #[_, _, Value.bool (decide (0 ≤ n)), Value.int .i64 (max n 0), _] = #[_, _, Value.bool (decide (0 ≤ max n (-1))), Value.int .i64 (max (max n (-1)) 0), _]
    rw [show max (max n (-1)) 0 = max n 0 from by omega, show decide (0 ≤ max n (-1)) = decide (0 ≤ n) from decide_eq_decide.2 (by omega)]
    rfl)
  dsimp only at HB
  rw [HC.out] at HB
  clear h hs hp hn HC
  rcases Int.lt_trichotomy n 0 with h1 | h1 | h1
  · have h2 : decide (0 ≤ n) = false := decide_eq_false (by omega)
    have h3 : decide (n ≥ 0) = false := h2
    rw [show max n 0 = 0 from by omega, h2] at HB
    clear h2
    go_enter Try.func26, Try.ntmps26
    go_wp2
    go_end0
    exact ⟨rfl, rdr_in HP.out (p := ⟨A, c, vs⟩) HB.out⟩
  · subst h1
    go_enter Try.func26, Try.ntmps26
    go_wp2
    go_end0
    exact ⟨rfl, rdr_in HP.out (p := ⟨A, c, vs⟩) HB.out⟩
  · have h2 : decide (0 ≤ n) = true := decide_eq_true (by omega)
    have h3 : decide (n ≥ 0) = true := h2
    rw [show max n 0 = n from by omega, h2] at HB
    clear h2
    go_enter Try.func26, Try.ntmps26
    go_wp2
    go_end0
    exact ⟨rfl, rdr_in HP.out (p := ⟨A, c, vs⟩) HB.out⟩
def RReadPost (w0 : World) (ps : List HP) (C : HP) (D : DV) (s : Int) (e : Ending) (w' : World) : Prop :=
  if D.off = true then e = .returned (.tuple #[.slice none 0 0, .int .i64 4]) ∧ St w0 w' (C :: ps)
  else if isS D s = false then e = .returned (.tuple #[.slice none 0 0, .int .i64 1]) ∧ St w0 w' (C :: ps)
  else ∃ v, e = .returned (.tuple #[v, .int .i64 0]) ∧ St w0 w' (row (Kd.int .u8) 5 v (lastS D s.toNat) :: C :: ps)
theorem getLast_getD (L : List (List Int)) (h : L ≠ []) : L.getLast h = L.getD (L.length - 1) [] := by
  have : 0 < L.length := List.length_pos_iff.2 h
  rw [List.getLast_eq_getElem, List.getD_eq_getElem?_getD, List.getElem?_eq_getElem (by omega)]
  rfl
/-- Sector i is opened. -/
theorem rdr_open (hp : DOk D) {p : RM} (h : St w0 w (rdrM g D p ++ ps)) (i : Nat) (hi : i < D.hs.length) :
    ∃ ts, St w0 w (qrow kSl 33 (encT (p.vs.getD i triN)) ts :: spr EB ts (D.hs.getD i [] :: D.ts.getD i []) none :: spr EG p.vs (rowsD D) (some i) :: blk g (rCells p.A D.hs.length p.c D) 58 :: row kSl 68 (.slice p.A D.hs.length p.c) p.vs :: ps) := by
  have h1 : St w0 w (spr EG p.vs (rowsD D) none :: blk g (rCells p.A D.hs.length p.c D) 58 :: row kSl 68 (.slice p.A D.hs.length p.c) p.vs :: ps) := h.front 2
  have hl := St.spr_len h1
  rw [rowsD_len hp] at hl
  have h2 := St.spr_take h1 i (by omega) []
  rw [rowsD_get hp i hi] at h2
  exact grp_out h2.swap
/-- The i-th of a row's slices, and the bytes that it names. -/
theorem grp_at {v : Tri} {ts : List Tri} {xs : List (List Int)} (h : St w0 w (qrow kSl 33 (encT v) ts :: spr EB ts xs none :: ps)) (k : Nat) (hk : k < xs.length) :
    v.2.1 = xs.length ∧ ts.length = xs.length ∧ ∃ ad, v.1 = some ad ∧ w.cell? (ad.add k) = some (encT (ts.getD k triN)) ∧ (ts.getD k triN).2.1 = (xs.getD k []).length ∧ Kd.C (Kd.int .u8) w (ts.getD k triN).1 (ts.getD k triN).2.1 (xs.getD k []) := by
  obtain ⟨q1, q2, q3⟩ := St.q_C h
  have hl := St.spr_len h.swap
  obtain ⟨ad, hA, hc⟩ := kSl_at q3 k (by omega)
  have h2 := (St.spr_take h.swap k (by omega) []).swap
  obtain ⟨r1, _, r3⟩ := h2.row_C
  exact ⟨q1.trans hl, hl, ad, hA, hc, r1, r3⟩
set_option maxHeartbeats 4000000 in
theorem ref_Read.st (h : St w0 w (rdr g D :: ps)) (s : Int) (hb : ∀ i, (lastS D i).length ≤ 100000) (hst : D.steps < 1000000) :
    Calls Try.prog 24 #[.pointer (some ⟨g, 0, none⟩), .int .i64 s] w fun e w' => RReadPost w0 ps (rdr g D) D s e w' := by
  have HH := Aside0.mk h
  obtain ⟨hp, ⟨A, c, vs⟩, hs⟩ := rdr_out h
  obtain ⟨k0, k1, k2, k3, k4⟩ := rdr_cells hs
  have HP := Aside0.mk hp
  have HS := Aside0.mk hs
  have HB := Aside0.mk hb
  have HST := Aside0.mk hst
  clear h hs hp k3 k4 k2 hb hst
  cases ho : D.off with
  | true =>
    rw [ho] at k1
    have HO := Aside0.mk ho
    clear ho
    go_enter Try.func24, Try.ntmps24
    go_wp2
    go_ret2
    unfold RReadPost
    rw [if_pos HO.out]
    exact ⟨rfl, HH.out⟩
  | false =>
    rw [ho] at k1
    have HO := Aside0.mk (show ¬ D.off = true from by rw [ho]; decide)
    clear ho
    cases hi : isS D s with
    | false =>
      have HI := Aside0.mk hi
      clear hi
      go_enter Try.func24, Try.ntmps24
      go_wp2_with fail
      refine (ref_there.st HH.out s).mono ?_
      rintro e w' ⟨rfl, rfl⟩
      rw [HI.out]
      go_wp2
      go_ret2
      unfold RReadPost
      rw [if_neg HO.out, if_pos HI.out]
      exact ⟨rfl, HH.out⟩
    | true =>
      have HI := Aside0.mk hi
      obtain ⟨i, rfl, hin⟩ : ∃ i : Nat, s = i ∧ i < D.hs.length := by
        unfold isS at hi
        simp only [Bool.and_eq_true, decide_eq_true_eq] at hi
        exact ⟨s.toNat, by omega, by omega⟩
      have HIN := Aside0.mk hin
      obtain ⟨ts, hs2⟩ := rdr_open HP.out HS.out i hin
      dsimp only at hs2 k0
      obtain ⟨xs, hxs⟩ : ∃ xs, D.hs.getD i [] :: D.ts.getD i [] = xs := ⟨_, rfl⟩
      have hxl : 0 < xs.length := by rw [← hxs]; simp
      have HLX := Aside0.mk (show lastS D i = xs.getD (xs.length - 1) [] from by
        rw [← hxs]
        exact getLast_getD _ _)
      rw [hxs] at hs2
      obtain ⟨q1, q2, ad2, q3, q4, q5, q6⟩ := grp_at hs2 (xs.length - 1) (by omega)
      obtain ⟨gL, hA, c0, _⟩ := (hs2.front 4).row_at i (by have := St.spr_len (hs2.front 2); rw [rowsD_len HP.out] at this; exact hin) triN
      subst hA
      obtain ⟨v, hv⟩ : ∃ v, vs.getD i triN = v := ⟨_, rfl⟩
      rw [hv] at hs2 q1 q3 c0
      obtain ⟨A2, n2, c2⟩ := v
      dsimp only at q1 q3
      subst q3
      obtain ⟨t3, ht3⟩ : ∃ t3, ts.getD (xs.length - 1) triN = t3 := ⟨_, rfl⟩
      rw [ht3] at q4 q5 q6
      obtain ⟨A3, n3, c3⟩ := t3
      dsimp only at q5 q6
      rw [← HLX.out] at q5 q6
      obtain ⟨k, hk⟩ : ∃ k, xs.length - 1 = k := ⟨_, rfl⟩
      rw [hk] at q4
      replace c0 : w.cell? ⟨gL, i, none⟩ = some (.slice (some ad2) n2 c2) := c0
      replace q4 : w.cell? (ad2.add k) = some (.slice A3 n3 c3) := q4
      have q4b : (w.alloc (.cells #[] 5)).cell? (ad2.add k) = some (.slice A3 n3 c3) := by rw [World.cell?_alloc_lt _ _ _ (World.block_lt_of_cell? w _ q4)]; exact q4
      have hb2 : n2 ≤ 9223372036854775807 := (St.q_C hs2).2.2.2.1 |> fun h => by rw [q1, ← q2]; exact h
      have HN3 := Aside0.mk (show n3 ≤ 100000 from by rw [q5]; exact HB.out i)
      have HC3 := Aside0.mk q6
      have HE : Aside0 (St w0 (w.alloc (.cells #[] 5)) (row (Kd.int .u8) 5 (.slice (some ⟨w.heap.size, 0, none⟩) 0 0) ([] : List Int) :: rdr g D :: ps)) := Aside0.mk (St.row_empty (enc := Value.int .u8) (h1 := fun _ => rfl) HH.out 5)
      have h5 : (i : Int) < (D.hs.length : Int) := by omega
      have h6 : (k : Int) < (n2 : Int) := by omega
      have e1 : wrap64 ((n2 : Int) - 1) = (k : Int) := by unfold wrap64; omega
      have h7 : k < n2 := by omega
      clear hi hin hs2 hxs hxl q1 q2 q5 q6 hv ht3 hk hb2
      go_enter Try.func24, Try.ntmps24
      go_wp2_with fail
      refine (ref_there.st HH.out i).mono ?_
      rintro e w' ⟨rfl, rfl⟩
      rw [HI.out]
      go_wp2_with (first | ((with_reducible refine gate_builtin (b := .append) (xs := #[.tmp 24, .tmp 30]) rfl ?_); at_builtin; refine St.append_rows (d := Kd.int .u8) rfl (.tmp 24) (.tmp 30) 33 5 (.int .u8 0) 1 rfl Try.underlying33 infou8 rfl (by decide) (by decide) _ [] (lastS D i) _ _ _ rfl rfl HE.out (Kd.C_below HC3.out (below_alloc (Below.refl _ _) _)) (fun _ _ h => h) (show (([] : List Int).length + n3) * 1 ≤ 140737488355328 from by have := HN3.out; simp; omega) ?_; intro v6 w6 hs6; rw [List.nil_append] at hs6; have HS6 := Aside0.mk hs6; clear hs6))
      go_ret2
      unfold RReadPost
      rw [if_neg HO.out, if_neg (by rw [HI.out]; decide), Int.toNat_natCast]
      exact ⟨_, rfl, HS6.out⟩
end
end Go.Proofs.Ytoloibjdiojmlaa.P
