/- The reference's Crash. -/
import Derived.Test.YtoloibjdiojmlaaRef3
namespace Go.Proofs.Ytoloibjdiojmlaa.P
open Go.RowKit Go.Proofs.YtoloibjdiojmlaaW.PrintWords Go.Proofs.YtoloibjdiojmlaaW.PrintLast Go.Proofs.YtoloibjdiojmlaaW.PrintMore Go.Proofs.Ytoloibjdiojmlaa.Sep
set_option linter.unusedVariables false
set_option linter.unusedSimpArgs false
attribute [local go_sem] max2_int min2_int max_two min_two max_three min_three max_four min_four
def rows2 (hs : List (List Int)) (ts : List (List (List Int))) : List (List (List Int)) := List.zipWith (fun h t => h :: t) hs ts
theorem rows2_len {hs : List (List Int)} {ts : List (List (List Int))} (h : ts.length = hs.length) : (rows2 hs ts).length = hs.length := by unfold rows2; rw [List.length_zipWith, h, Nat.min_self]
theorem rows2_get {hs : List (List Int)} {ts : List (List (List Int))} (h : ts.length = hs.length) (i : Nat) (hi : i < hs.length) : (rows2 hs ts).getD i [] = hs.getD i [] :: ts.getD i [] := by
  unfold rows2
  rw [List.getD_eq_getElem?_getD, List.getElem?_zipWith, List.getElem?_eq_getElem hi, List.getElem?_eq_getElem (show i < ts.length by omega), List.getD_eq_getElem?_getD (l := hs), List.getD_eq_getElem?_getD (l := ts), List.getElem?_eq_getElem hi, List.getElem?_eq_getElem (show i < ts.length by omega)]
  rfl
theorem rows2_set {hs : List (List Int)} {ts : List (List (List Int))} (h : ts.length = hs.length) (i : Nat) (hi : i < hs.length) (x : List Int) (t : List (List Int)) : rows2 (hs.set i x) (ts.set i t) = (rows2 hs ts).set i (x :: t) := by
  apply List.ext_getElem?
  intro k
  unfold rows2
  rw [List.getElem?_zipWith]
  by_cases hk : k = i
  · subst hk
    rw [List.getElem?_set_self hi, List.getElem?_set_self (by omega), List.getElem?_set_self (by rw [List.length_zipWith]; omega)]
  · rw [List.getElem?_set_ne (fun q => hk q.symm), List.getElem?_set_ne (fun q => hk q.symm), List.getElem?_set_ne (fun q => hk q.symm), List.getElem?_zipWith]
section
variable {w0 w : World} {a b c d : HP} {ps : List HP}
theorem St.sw13 (h : St w0 w (a :: b :: c :: ps)) : St w0 w (c :: b :: a :: ps) := St.cons_swap (h.front 2)
theorem St.rot4 (h : St w0 w (a :: b :: c :: d :: ps)) : St w0 w (d :: a :: b :: c :: ps) := h.front 3
end
theorem St.kSl_cell {w0 w : World} {ps : List HP} {g e n c : Nat} {xs : List Tri} (h : St w0 w (row kSl e (.slice (some ⟨g, 0, none⟩) n c) xs :: ps)) (i : Nat) (hi : i < n) :
    w.cell? ⟨g, i, none⟩ = some (encT (xs.getD i triN)) ∧ w.frozen? ⟨g, i, none⟩ = false ∧ ∀ x : Tri, St w0 (w.setCell ⟨g, i, none⟩ (encT x)) (row kSl e (.slice (some ⟨g, 0, none⟩) n c) (xs.set i x) :: ps) := by
  obtain ⟨g', hA, h1, h2, h3⟩ := h.row_at i hi triN
  injection hA with hA
  injection hA with hA
  subst hA
  exact ⟨h1, h2, h3⟩
theorem drop_head (l : List Int) (k : Nat) (h : k < l.length) : (l.drop k).headD 0 = rd l (k : Int) ∧ (l.drop k).tail = l.drop (k + 1) := by
  rw [List.drop_eq_getElem_cons h]
  refine ⟨?_, rfl⟩
  unfold rd
  rw [Int.toNat_natCast, List.getD_eq_getElem?_getD, List.getElem?_eq_getElem h]
  rfl
section
variable {w0 w : World} {ps : List HP} {g : Nat} {D : DV}
def rc_T : Bool × List (List Nat × List Nat) := (true, [([], []), ([0], [0]), ([1], [1]), ([2], [2]), ([], []), ([], []), ([5], [5]), ([6], [6]), ([7], [7]), ([], []), ([8, 9], [8, 9]), ([10], [10]), ([], []), ([], []), ([13], [13]), ([12, 14], [12, 14]), ([11, 15], [11, 15]), ([16], [16]), ([17], [17]), ([3, 4, 0, 1, 2, 3, 4, 5, 6, 7, 8, 9, 10, 11, 12, 13, 14, 15, 16, 17, 18], [3, 4]), ([19, 18, 0, 1, 2, 3, 4, 5, 6, 7, 8, 9, 10, 11, 12, 13, 14, 15, 16, 17, 18], [18, 19])])
def rc_B : List Nat := [0, 1, 3, 7, 0, 0, 32, 96, 224, 0, 992, 2016, 0, 0, 8192, 28672, 65504, 131040, 262112, 524287, 1048575]
theorem rc_tab : rtab .any (opsOf Try.f27 12) = rc_T := by kernel_rfl
theorem rc_bits : waitsOk rc_T.2 rc_B = true := by kernel_rfl
set_option maxHeartbeats 16000000 in
set_option maxRecDepth 100000 in
theorem ref_Crash.st {A0 : Option Addr} {n0 c0 : Nat} {l : List Int} (h : St w0 w (rdr g D :: ps)) (hk : KC w0 ps A0 n0 l) (hr : ∀ x ∈ l, -9223372036854775808 ≤ x ∧ x ≤ 9223372036854775807) (hst : D.steps < 1000000) :
    Calls Try.prog 27 #[.pointer (some ⟨g, 0, none⟩), .slice A0 n0 c0] w fun e w' => e = .returned (.tuple #[]) ∧ St w0 w' (rdr g (crashD D l) :: ps) := by
  obtain ⟨hp, ⟨A, c, vs⟩, hs1⟩ := rdr_out h
  have HP := Aside0.mk (crashD_ok hp l)
  have HK := Aside0.mk hk
  have HR := Aside0.mk hr
  have HBD := Aside0.mk (show ∀ i, (D.ts.getD i []).length < 1000000 from fun i => by
    rw [List.getD_eq_getElem?_getD]
    cases hq : D.ts[i]? with
    | none => decide
    | some t => exact Nat.lt_of_le_of_lt (hp.2.2.2 t (List.mem_of_getElem? hq)) hst)
  have HLE := Aside0.mk hp.2.1
  have HTH := Aside0.mk hp.1
  have HM0 := Aside0.mk (CrashMid.start (l := l) hp.1)
  obtain ⟨n, hn⟩ : ∃ n, D.hs.length = n := ⟨_, rfl⟩
  have HN := Aside0.mk hn
  unfold rdrM at hs1
  dsimp only at hs1
  rw [hn] at hs1 HLE
  have HNL := Aside0.mk (show l.length = n0 ∧ n0 ≤ 9223372036854775807 from by
    have h9 := hk w [_, _, _] hs1
    exact ⟨h9.1, h9.2.1⟩)
  have HS1 := Aside0.mk (show St w0 w (spr EG vs (rows2 D.hs D.ts) none :: blk g (rCells A n c D) 58 :: row kSl 68 (.slice A n c) vs :: ps) from hs1.front 2)
  clear h hs1 hp hk hr hn hst
  go_enter Try.func27, Try.ntmps27
  go_wp2_with fail
  go_loopw [4, 5] (fun kx ix wr => ∃ (kk i : Nat) (vs : List Tri) (hs' : List (List Int)) (ts' : List (List (List Int))), kx = .int .i64 (kk : Int) ∧ ix = .int .i64 (i : Int) ∧ i ≤ n ∧ kk ≤ n0 ∧ Aside0 (CrashMid D.hs D.ts l i hs' ts' (l.drop kk)) ∧ Aside0 (St w0 wr (spr EG vs (rows2 hs' ts') none :: blk g (rCells A n c D) 58 :: row kSl 68 (.slice A n c) vs :: ps))) (fun _ ix _ => n - (intOf ix).toNat)
  case atStart => exact ⟨0, 0, vs, D.hs, D.ts, rfl, rfl, Nat.zero_le _, Nat.zero_le _, HM0, HS1⟩
  case round =>
    clear HS1 HM0
    obtain ⟨kk, i, vs, hs', ts', rfl, rfl, hi, hkk, HM, HS⟩ := hrel
    have HKK := Aside0.mk hkk
    have HI := Aside0.mk hi
    clear hi hkk
    have k0 := (rdr_cells (HS.out.front 1)).1
    by_cases hlt : i < n
    · have h1 : decide ((i : Int) < (n : Int)) = true := decide_eq_true (by omega)
      have h2 : (i : Int) < (n : Int) := by omega
      have HLT := Aside0.mk hlt
      have hih : i < D.hs.length := by rw [HN.out]; exact hlt
      have HIH := Aside0.mk hih
      have e0 := Aside0.mk (incM i (by have := HLE.out; omega))
      have HME := Aside0.mk (measM n i hlt)
      have HHT := Aside0.mk (show ts'.length = hs'.length from by rw [HM.out.tlen, HM.out.hlen])
      have HHL := Aside0.mk (show i < hs'.length from by rw [HM.out.hlen]; exact hih)
      have HVL := Aside0.mk (show i < vs.length from by rw [St.spr_len HS.out, rows2_len HHT.out]; exact HHL.out)
      have hs2 := (St.spr_take HS.out i HVL.out []).swap
      rw [rows2_get HHT.out i HHL.out] at hs2
      obtain ⟨ts, hs2⟩ := grp_out hs2
      obtain ⟨t, ht⟩ : ∃ t, ts'.getD i [] = t := ⟨_, rfl⟩
      obtain ⟨h0, hh0⟩ : ∃ h0, hs'.getD i [] = h0 := ⟨_, rfl⟩
      rw [ht, hh0] at hs2
      have HT := Aside0.mk ht
      have HH0 := Aside0.mk hh0
      obtain ⟨q1, q2, ad2, q3, _⟩ := grp_at hs2 0 (by simp)
      obtain ⟨gL, hA, cc, _⟩ := (hs2.front 4).row_at i hlt triN
      subst hA
      obtain ⟨v, hv⟩ : ∃ v, vs.getD i triN = v := ⟨_, rfl⟩
      rw [hv] at hs2 cc q1 q3
      obtain ⟨A2, n2, c2⟩ := v
      dsimp only at q1 q3
      subst q3
      replace cc : wr.cell? ⟨gL, i, none⟩ = some (.slice (some ad2) n2 c2) := cc
      have HV := Aside0.mk hv
      have HS2 := Aside0.mk hs2
      obtain ⟨tl, htl⟩ : ∃ tl, t.length = tl := ⟨_, rfl⟩
      have HTL := Aside0.mk htl
      rw [List.length_cons, htl] at q1
      have htlb : tl < 1000000 := by
        have h9 := HBD.out i
        rw [← HM.out.tget hih, ht, htl] at h9
        exact h9
      have e1 : wrap64 ((n2 : Int) - 1) = (tl : Int) := by unfold wrap64; omega
      have HTB := Aside0.mk htlb
      have HN2 := Aside0.mk q1
      clear hs2 ht hh0 q1 q2 hv htlb htl hih hlt
      by_cases ht : tl = 0
      · have HM2 := Aside0.mk (HM.out.stepA HIH.out (by rw [HT.out]; exact List.eq_nil_of_length_eq_zero (HTL.out.trans ht)))
        subst ht
        go_wp2_with fail
        go_roundw
        case rel => exact ⟨kk, i + 1, vs, hs', ts', rfl, by first | rfl | rw [e0.out], HLT.out, HKK.out, HM2, HS⟩
        case measure => exact HME.out _ (by first | rfl | exact e0.out)
      · have h3 : ((tl : Int) == 0) = false := by simp; omega
        have h3p : ¬ (tl : Int) = 0 := by omega
        have HT0 := Aside0.mk ht
        go_upto_if 31 with fail
        simp only [e1]
        clear e1
        go_cut [4, 7] (fun kx xv wx => ∃ (kk' : Nat) (x : Int), kx = .int .i64 (kk' : Int) ∧ xv = .int .i64 x ∧ Aside0 (kk' ≤ n0 ∧ l.drop kk' = (l.drop kk).tail) ∧ Aside0 ((l.drop kk).headD 0 = x ∧ -9223372036854775808 ≤ x ∧ x ≤ 9223372036854775807) ∧ wx = wr)
        case first =>
          by_cases hk : kk < n0
          · have h4 : decide ((kk : Int) < (n0 : Int)) = true := decide_eq_true (by omega)
            have h4p : (kk : Int) < (n0 : Int) := by omega
            obtain ⟨d1, d2⟩ := drop_head l kk (by rw [HNL.out.1]; exact hk)
            obtain ⟨ad, hA, hcell⟩ := Kd.at_int (HK.out wr [_, _, _] HS.out) (kk : Int) (Int.natCast_nonneg kk) h4p
            obtain ⟨x, hx⟩ : ∃ x, rd l (kk : Int) = x := ⟨_, rfl⟩
            rw [hx] at hcell d1
            rw [Int.toNat_natCast] at hcell
            subst hA
            have HX := Aside0.mk (show (l.drop kk).headD 0 = x ∧ -9223372036854775808 ≤ x ∧ x ≤ 9223372036854775807 from ⟨d1, HR.out x (by
              rw [← hx]
              unfold rd
              rw [Int.toNat_natCast, List.getD_eq_getElem?_getD, List.getElem?_eq_getElem (by rw [HNL.out.1]; exact hk)]
              exact List.getElem_mem _)⟩)
            have HDK := Aside0.mk (show kk + 1 ≤ n0 ∧ l.drop (kk + 1) = (l.drop kk).tail from ⟨hk, d2.symm⟩)
            have e3 := Aside0.mk (show wrap64 ((kk : Int) + 1) = ((kk + 1 : Nat) : Int) from by have := HNL.out.2; unfold wrap64; omega)
            clear d1 d2 hx hk
            go_wp2_with fail
            go_meet
            exact ⟨kk + 1, x, by first | rfl | rw [e3.out], rfl, HDK, HX, rfl⟩
          · have h4 : decide ((kk : Int) < (n0 : Int)) = false := decide_eq_false (by omega)
            have h4p : ¬ (kk : Int) < (n0 : Int) := by omega
            have HDK := Aside0.mk (show kk ≤ n0 ∧ l.drop kk = (l.drop kk).tail from ⟨HKK.out, by rw [List.drop_of_length_le (by rw [HNL.out.1]; omega)]; rfl⟩)
            have HX := Aside0.mk (show (l.drop kk).headD 0 = 0 ∧ -9223372036854775808 ≤ (0 : Int) ∧ (0 : Int) ≤ 9223372036854775807 from ⟨by rw [List.drop_of_length_le (by rw [HNL.out.1]; omega)]; rfl, by decide, by decide⟩)
            clear hk
            go_wp2_with fail
            go_meet
            exact ⟨kk, 0, rfl, rfl, HDK, HX, rfl⟩
        case rest =>
          obtain ⟨kk', x, rfl, rfl, HDK, HX, rfl⟩ := hcut
          go_upto_if 39 with fail
          go_cut [7] (fun v wx => v = .int .i64 (pickY x) ∧ wx = wc)
          case first =>
            by_cases hx0 : x < 0
            · have h3 : decide (x < 0) = true := decide_eq_true hx0
              have e2 := Aside0.mk (negw HX.out.2.1 hx0)
              go_wp2
              go_meet
              exact ⟨by rw [e2.out], rfl⟩
            · have h3 : decide (x < 0) = false := decide_eq_false hx0
              have e2 := Aside0.mk (show pickY x = x from by unfold pickY; rw [if_neg hx0])
              go_wp2
              go_meet
              exact ⟨by rw [e2.out], rfl⟩
          case rest =>
            obtain ⟨rfl, rfl⟩ := hcut
            have e5 : ((tl : Int) + 1 == 0) = false := by simp; omega
            have e6 : ¬ ((tl : Int) + 1 = 0) := by omega
            have e7 : wrap64 ((tl : Int) + 1) = (tl : Int) + 1 := by have := HTB.out; unfold wrap64; omega
            obtain ⟨y, hy⟩ : ∃ y, pickY x = y := ⟨_, rfl⟩
            rw [hy]
            obtain ⟨q1, q2⟩ := pickI_lt x tl HX.out.2.1
            obtain ⟨i2, hi2⟩ : ∃ i2, pickI x tl = i2 := ⟨_, rfl⟩
            rw [hi2] at q1 q2
            rw [hy] at q2
            obtain ⟨x3, hx3⟩ : ∃ x3, (h0 :: t).getD i2 [] = x3 := ⟨_, rfl⟩
            have HMB := Aside0.mk (show CrashMid D.hs D.ts l (i + 1) (hs'.set i x3) (ts'.set i []) (l.drop kk') from by
              have := HM.out.stepB HIH.out HT.out (fun q => HT0.out (by rw [← HTL.out, q]; rfl))
              rw [HX.out.1, HTL.out, hi2, HH0.out, hx3, ← HDK.out.2] at this
              exact this)
            have hs2 := HS2.out.drew
            obtain ⟨r1, r2, ad2', r3, r4, r5, r6⟩ := grp_at hs2 i2 (by rw [List.length_cons, HTL.out]; exact q1)
            injection r3 with r3
            subst r3
            obtain ⟨t3, ht3⟩ : ∃ t3, ts.getD i2 triN = t3 := ⟨_, rfl⟩
            rw [ht3] at r4 r5 r6
            obtain ⟨A3, n3, c3⟩ := t3
            replace r4 : wc.drew.cell? (ad2.add i2) = some (.slice A3 n3 c3) := r4
            have hs5 := St.drop (St.spr_take (St.drop hs2) i2 (by rw [r2, List.length_cons, HTL.out]; exact q1) [])
            rw [ht3, hx3] at hs5
            have HS5 := Aside0.mk hs5
            have HSS : Aside0 (∀ W : World, Below wc.drew.heap.size wc.drew W → (fun W : World => W.cell? ⟨g, 0, none⟩ = some (.slice (some ⟨gL, 0, none⟩) n c) ∧ W.cell? ⟨gL, i, none⟩ = some (.slice (some ad2) n2 c2) ∧ W.cell? (ad2.add i2) = some (.slice A3 n3 c3)) W) := ⟨fun W hb => by
              have z1 : wc.drew.cell? ⟨g, 0, none⟩ = some (.slice (some ⟨gL, 0, none⟩) n c) := k0
              have z2 : wc.drew.cell? ⟨gL, i, none⟩ = some (.slice (some ad2) n2 c2) := cc
              exact ⟨(hb.cell (World.block_lt_of_cell? wc.drew _ z1)).trans z1, (hb.cell (World.block_lt_of_cell? wc.drew _ z2)).trans z2, (hb.cell (World.block_lt_of_cell? wc.drew _ r4)).trans r4⟩⟩
            have h8 : i2 < n2 := HN2.out ▸ q1
            have h8p : (i2 : Int) < (n2 : Int) := Int.ofNat_lt.2 h8
            have e4 : y.tmod ((tl : Int) + 1) = (i2 : Int) := q2.symm
            clear hs2 hs5 r1 r2 r5 r6 ht3 hx3 hy hi2 q1 q2 r4
            go_upto_region 12 with fail
            clear k0 cc
            refine stepStartD (fun W : World => W.cell? ⟨g, 0, none⟩ = some (.slice (some ⟨gL, 0, none⟩) n c) ∧ W.cell? ⟨gL, i, none⟩ = some (.slice (some ad2) n2 c2) ∧ W.cell? (ad2.add i2) = some (.slice A3 n3 c3)) 21 [0, 1, 2, 3, 4, 5, 6, 7, 8, 9, 10, 11, 12, 13, 14, 15, 16, 17, 18, 19, 20] [20] rc_tab rc_bits (by kernel_rfl) rfl (HSS.out _ (Below.refl _ _)) (fun HT_ HW_ hHeld => ?_)
            iterate 3 (refine stepPu (v := ?_) rfl rfl (any_of HT_.out (by kernel_rfl)) (fun _ _ _ h => h) (Or.inl ⟨by rfl, ?_⟩) (a' := ?_) ?_ ?_; rotate_left; (· intro w'; go_simp; with_reducible rfl); rotate_left; (· (simp only [Act.put, List.setIfInBounds_toArray, List.set_cons_zero, List.set_cons_succ, i64_w, i32_w]; rfl)))
            (refine stepLd (v := ?_) rfl rfl (take_ofW HT_.out HW_.out (by kernel_rfl)) (fun _ _ _ h => h) (Or.inl ⟨by rfl, ?_⟩) hHeld (a' := ?_) ?_ ?_; rotate_left; (· rintro w' ⟨s0, s1, s2⟩; go_simp; with_reducible rfl); rotate_left; (· (simp only [Act.put, List.setIfInBounds_toArray, List.set_cons_zero, List.set_cons_succ, i64_w, i32_w]; rfl)))
            iterate 4 (refine stepPu (v := ?_) rfl rfl (any_of HT_.out (by kernel_rfl)) (fun _ _ _ h => h) (Or.inl ⟨by rfl, ?_⟩) (a' := ?_) ?_ ?_; rotate_left; (· intro w'; go_simp; with_reducible rfl); rotate_left; (· (simp only [Act.put, List.setIfInBounds_toArray, List.set_cons_zero, List.set_cons_succ, i64_w, i32_w]; rfl)))
            (refine stepLd (v := ?_) rfl rfl (take_ofW HT_.out HW_.out (by kernel_rfl)) (fun _ _ _ h => h) (Or.inl ⟨by rfl, ?_⟩) hHeld (a' := ?_) ?_ ?_; rotate_left; (· rintro w' ⟨s0, s1, s2⟩; go_simp; with_reducible rfl); rotate_left; (· (simp only [Act.put, List.setIfInBounds_toArray, List.set_cons_zero, List.set_cons_succ, i64_w, i32_w]; rfl)))
            iterate 2 (refine stepPu (v := ?_) rfl rfl (any_of HT_.out (by kernel_rfl)) (fun _ _ _ h => h) (Or.inl ⟨by rfl, ?_⟩) (a' := ?_) ?_ ?_; rotate_left; (· intro w'; go_simp; with_reducible rfl); rotate_left; (· (simp only [Act.put, List.setIfInBounds_toArray, List.set_cons_zero, List.set_cons_succ, i64_w, i32_w]; rfl)))
            (refine stepLd (v := ?_) rfl rfl (take_ofW HT_.out HW_.out (by kernel_rfl)) (fun _ _ _ h => h) (Or.inl ⟨by rfl, ?_⟩) hHeld (a' := ?_) ?_ ?_; rotate_left; (· rintro w' ⟨s0, s1, s2⟩; go_simp; with_reducible rfl); rotate_left; (· (simp only [Act.put, List.setIfInBounds_toArray, List.set_cons_zero, List.set_cons_succ, i64_w, i32_w]; rfl)))
            iterate 5 (refine stepPu (v := ?_) rfl rfl (any_of HT_.out (by kernel_rfl)) (fun _ _ _ h => h) (Or.inl ⟨by rfl, ?_⟩) (a' := ?_) ?_ ?_; rotate_left; (· intro w'; go_simp; with_reducible rfl); rotate_left; (· (simp only [Act.put, List.setIfInBounds_toArray, List.set_cons_zero, List.set_cons_succ, i64_w, i32_w]; rfl)))
            (refine stepLd (v := ?_) rfl rfl (take_ofW HT_.out HW_.out (by kernel_rfl)) (fun _ _ _ h => h) (Or.inl ⟨by rfl, ?_⟩) hHeld (a' := ?_) ?_ ?_; rotate_left; (· rintro w' ⟨s0, s1, s2⟩; go_simp; with_reducible rfl); rotate_left; (· (simp only [Act.put, List.setIfInBounds_toArray, List.set_cons_zero, List.set_cons_succ, i64_w, i32_w]; rfl)))
            refine stepOne rfl rfl (one_of HT_.out (by kernel_rfl)) (by decide) (fun K hK => ?_)
            refine Kd.R_lit_step kSl _ 33 (by rfl) rfl (xs := [(A3, n3, c3)]) (inner := [.slice A3 n3 c3]) (ok := fun _ => True) (okp := fun _ => True) ?_ ?_ (fun _ hk => hk) trivial (Below.refl _ _) (Nat.le_refl _) (by simp) ?_
            · first | (go_simp; done) | (go_simp; rfl)
            · exact (Reps.none _ _).snoc (show kSl.M _ _ _ (A3, n3, c3) [.slice A3 n3 c3] from rfl) rfl
            intro vl wl hr hb hg_ hn_
            clear hg_ hn_
            have HS7 := Aside0.mk (HS5.out.row_new hb hr)
            have HB7 := Aside0.mk hb
            clear hr hb
            obtain ⟨Al, cl, hel⟩ := (HS7.out).row_slice
            rw [List.length_singleton] at hel
            subst hel
            refine hK.out _ _ (HSS.out _ HB7.out) (fun hHeld => ?_)
            clear hK K
            refine norm_ (a' := ?_) ?_ ?_
            rotate_left
            · show Act.put _ (some 61) _ = _
              simp only [Act.put, List.setIfInBounds_toArray, List.set_cons_zero, List.set_cons_succ, i64_w, i32_w]
              rfl
            (refine stepPu (v := ?_) rfl rfl (any_of HT_.out (by kernel_rfl)) (fun _ _ _ h => h) (Or.inl ⟨by rfl, ?_⟩) (a' := ?_) ?_ ?_; rotate_left; (· intro w'; go_simp; with_reducible rfl); rotate_left; (· (simp only [Act.put, List.setIfInBounds_toArray, List.set_cons_zero, List.set_cons_succ, i64_w, i32_w]; rfl)))
            refine stepLast rfl rfl (one_of HT_.out (by kernel_rfl)) (by decide) (fun K hK => ?_)
            have b0 : St w0 wl (spr EB [(A3, n3, c3)] [x3] none :: qrow kSl 33 (.slice Al 1 cl) [(A3, n3, c3)] :: spr EG vs (rows2 hs' ts') (some i) :: blk g (rCells (some ⟨gL, 0, none⟩) n c D) 58 :: row kSl 68 (.slice (some ⟨gL, 0, none⟩) n c) vs :: ps) := St.spr_snoc (v := (A3, n3, c3)) (y := x3) (St.spr_nil (E := EB) (St.swap (St.row_q HS7.out)))
            have b1 := St.rot4 (grp_in (v := encT (Al, 1, cl)) (St.swap b0))
            obtain ⟨hc6, hf6, hset6⟩ := St.kSl_cell b1 i HLT.out
            have HC6 := Aside0.mk hc6
            have HF6 := Aside0.mk hf6
            have a1 := St.sw13 (hset6 (Al, 1, cl))
            have a3 := St.cons_swap (St.spr_put (v := (Al, 1, cl)) (y := [x3]) a1 HVL.out)
            have hrs := rows2_set HHT.out i HHL.out x3 []
            have a4 : St w0 _ (spr EG (vs.set i (Al, 1, cl)) (rows2 (hs'.set i x3) (ts'.set i [])) none :: _) := hrs ▸ a3
            have HS8 := Aside0.mk a4
            clear b0 b1 a1 a3 a4 hrs hc6 hf6 hset6
            refine step_store_val (by rfl) 68 (.tmp 62) (.tmp 61) rfl gL i _ rfl rfl rfl rfl (by rw [HC6.out]; rfl) HF6.out (by kernel_rfl) ?_
            refine hK.out _ _ ?_
            clear hK K
            refine done_ (done_of HT_.out (by kernel_rfl)) ?_
            clear HT_ HW_ hHeld HSS
            simp only [Act.put]
            go_wp2_with fail
            go_roundw
            case rel => exact ⟨kk', i + 1, _, _, _, rfl, by first | rfl | rw [e0.out], HLT.out, HDK.out.1, HMB, HS8⟩
            case measure => exact HME.out _ (by first | rfl | exact e0.out)
    · have h1 : decide ((i : Int) < (n : Int)) = false := decide_eq_false (by omega)
      have h2 : ¬ (i : Int) < (n : Int) := by omega
      have hie : i = D.hs.length := by have := HI.out; have := HN.out; omega
      have HF := Aside0.mk (CrashMid.stop (hie ▸ HM.out))
      have HB := HS.out.front 1
      have f1 : wr.frozen? ⟨g, 1, none⟩ = false := blk_frozen HB.blk_is 1
      have f2 : wr.frozen? ⟨g, 2, none⟩ = false := blk_frozen HB.blk_is 2
      have f3 : wr.frozen? ⟨g, 3, none⟩ = false := blk_frozen HB.blk_is 3
      have j1 := blk_cell HB.blk_is 1
      have j2 := blk_cell HB.blk_is 2
      have j3 := blk_cell HB.blk_is 3
      have HE := Aside0.mk (show St w0 _ (blk g (rCells A n c (crashD D l)) 58 :: _) from ((HB.blk_set 1 (.bool false)).blk_set 2 (.bool false)).blk_set 3 (.int .i64 0))
      clear HB hie hlt
      go_wp2
      go_end0
      refine ⟨rfl, rdr_put (A := A) (c := c) (n := n) (vs := vs) HP.out (by unfold crashD; dsimp only; rw [crashL_len]; exact HN.out) ?_⟩
      show St w0 _ (blk g (rCells A n c (crashD D l)) _ :: row kSl _ _ vs :: spr EG vs (rows2 (crashL D.hs D.ts l) (D.ts.map (fun _ => []))) none :: ps)
      rw [← HF.out.1, ← HF.out.2]
      exact St.cons_swap HE.out
end
end Go.Proofs.Ytoloibjdiojmlaa.P
