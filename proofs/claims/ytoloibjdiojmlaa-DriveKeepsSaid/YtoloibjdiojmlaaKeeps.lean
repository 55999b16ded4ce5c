/- DriveKeeps' walk. -/
import Derived.Test.YtoloibjdiojmlaaTurns
import Derived.Test.YtoloibjdiojmlaaReadsD
import Derived.Test.YtoloibjdiojmlaaRowsV
namespace Go.Proofs.Ytoloibjdiojmlaa.P
open Go.RowKit Go.Proofs.YtoloibjdiojmlaaW.PrintWords Go.Proofs.YtoloibjdiojmlaaW.PrintLast Go.Proofs.YtoloibjdiojmlaaW.PrintMore Go.Proofs.Ytoloibjdiojmlaa.Sep
set_option linter.unusedVariables false
set_option linter.unusedSimpArgs false
attribute [local go_sem] max2_int min2_int max_two min_two max_three min_three max_four min_four
theorem info64 : (Try.prog.info? 3).map (fun i => (i.zero, i.size, i.bytes)) = some (some (.int .i64 0), 1, 8) := by kernel_rfl
/-- All of a sector's contents, the sure one first. -/
def allS (D : DV) (s : Nat) : List (List Int) := D.hs.getD s [] :: D.ts.getD s []
/-- Ahead of the flush. -/
structure KA (i : Nat) (ms : List (List Int)) (D : DV) : Prop where
  t : TInv i D
  l : ms.length = 32
  e : ∀ s, s < 32 → ∃ c, ms.getD s [] = [c] ∧ lastS D s = fillS c
/-- Behind it. -/
structure KB (i : Nat) (ms : List (List Int)) (D : DV) : Prop where
  t : TInv i D
  l : ms.length = 32
  e : ∀ s, s < 32 → allS D s = (ms.getD s []).map fillS
theorem getD_set {α : Type} {l : List α} {i : Nat} (hi : i < l.length) (x z : α) (k : Nat) : (l.set i x).getD k z = if k = i then x else l.getD k z := by
  rw [List.getD_eq_getElem?_getD]
  by_cases hk : k = i
  · subst hk
    rw [if_pos rfl, List.getElem?_set_self hi]
    rfl
  · rw [if_neg hk, List.getElem?_set_ne (fun q => hk q.symm), ← List.getD_eq_getElem?_getD]
theorem KA.put {i : Nat} {ms : List (List Int)} {D : DV} (h : KA i ms D) (s : Nat) (hs : s < 32) (c : Int) : KA (i + 1) (ms.set s [c]) (putD (stepD D) s (fillS c)) := by
  refine ⟨h.t.put _ _, by rw [List.length_set]; exact h.l, fun k hk => ?_⟩
  rw [getD_set (by rw [h.l]; exact hs), h.t.step]
  rw [lastS_put _ (by show D.ts.length = D.hs.length; rw [h.t.t, h.t.n]) s (by show s < D.hs.length; rw [h.t.n]; exact hs)]
  by_cases hks : k = s
  · rw [if_pos hks, if_pos hks]
    exact ⟨c, rfl, rfl⟩
  · rw [if_neg hks, if_neg hks]
    exact h.e k hk
theorem KA.flush {i : Nat} {ms : List (List Int)} {D : DV} (h : KA i ms D) : KB (i + 1) ms (flushD (stepD D)) := by
  rw [h.t.step]
  refine ⟨⟨by unfold flushD; simp [h.t.n], by unfold flushD; simp [h.t.t], h.t.o, h.t.f, rfl⟩, h.l, fun s hs => ?_⟩
  obtain ⟨c, h1, h2⟩ := h.e s hs
  have e1 : (flushD { D with steps := i + 1 }).ts.getD s [] = [] := by
    unfold flushD
    rw [List.getD_eq_getElem?_getD, List.getElem?_map]
    cases D.ts[s]? <;> rfl
  have e2 : (flushD { D with steps := i + 1 }).hs.getD s [] = lastS D s := by
    unfold flushD
    dsimp only
    rw [List.getD_eq_getElem?_getD, List.getElem?_map, List.getElem?_range (by rw [h.t.n]; exact hs)]
    rfl
  unfold allS
  rw [e1, e2, h1, h2]
  rfl
theorem KB.put {i : Nat} {ms : List (List Int)} {D : DV} (h : KB i ms D) (s : Nat) (hs : s < 32) (c : Int) : KB (i + 1) (ms.set s (ms.getD s [] ++ [c])) (putD (stepD D) s (fillS c)) := by
  refine ⟨h.t.put _ _, by rw [List.length_set]; exact h.l, fun k hk => ?_⟩
  rw [getD_set (by rw [h.l]; exact hs), h.t.step]
  have h3 := h.e k hk
  unfold allS at h3 ⊢
  unfold putD
  dsimp only
  rw [getD_set (by rw [h.t.t]; exact hs)]
  by_cases hks : k = s
  · subst hks
    rw [if_pos rfl, if_pos rfl, List.map_append, ← h3]
    rfl
  · rw [if_neg hks, if_neg hks]
    exact h3
theorem KB.len {i : Nat} {ms : List (List Int)} {D : DV} (h : KB i ms D) (hd : DOk D) (s : Nat) (hs : s < 32) : (ms.getD s []).length ≤ i + 1 := by
  have h1 := h.e s hs
  have h2 : ((ms.getD s []).map fillS).length = (allS D s).length := by rw [h1]
  rw [List.length_map] at h2
  rw [h2]
  unfold allS
  rw [List.length_cons]
  have : (D.ts.getD s []).length ≤ D.steps := by
    rw [List.getD_eq_getElem?_getD]
    cases hq : D.ts[s]? with
    | none => exact Nat.zero_le _
    | some t => exact hd.2.2.2 t (List.mem_of_getElem? hq)
  have := h.t.s
  omega
theorem crashL_get : ∀ (hs : List (List Int)) (ts : List (List (List Int))) (l : List Int) (s : Nat), ts.length = hs.length → s < hs.length → (crashL hs ts l).getD s [] ∈ hs.getD s [] :: ts.getD s []
  | [], _, _, s, _, h => absurd h (Nat.not_lt_zero _)
  | h0 :: hs, [], _, s, hl, _ => by simp at hl
  | h0 :: hs, t :: ts, l, 0, hl, _ => by
    unfold crashL
    split
    · exact List.mem_cons_self
    · show (h0 :: t).getD (pickI (l.headD 0) t.length) [] ∈ h0 :: t
      rw [List.getD_eq_getElem?_getD]
      have hlt : pickI (l.headD 0) t.length < (h0 :: t).length := by
        rw [List.length_cons]
        unfold pickI
        have h0 : 0 ≤ pickY (l.headD 0) := by unfold pickY; split <;> omega
        rw [Int.tmod_eq_emod_of_nonneg h0]
        have h1 := Int.emod_nonneg (pickY (l.headD 0)) (show ((t.length : Int) + 1) ≠ 0 by omega)
        have h2 := Int.emod_lt_of_pos (pickY (l.headD 0)) (show 0 < ((t.length : Int) + 1) by omega)
        omega
      rw [List.getElem?_eq_getElem hlt]
      exact List.getElem_mem _
  | h0 :: hs, t :: ts, l, s + 1, hl, h => by
    unfold crashL
    split
    · exact crashL_get hs ts l s (by simpa using hl) (by simpa using h)
    · exact crashL_get hs ts l.tail s (by simpa using hl) (by simpa using h)
/-- Behind the crash. -/
structure KC2 (ms : List (List Int)) (D : DV) : Prop where
  n : D.hs.length = 32
  o : D.off = false
  l : ms.length = 32
  c : cntT D.ts = 0
  e : ∀ s, s < 32 → ∃ j, j < (ms.getD s []).length ∧ lastS D s = fillS ((ms.getD s []).getD j 0)
theorem KB.crash {i : Nat} {ms : List (List Int)} {D : DV} (h : KB i ms D) (l : List Int) : KC2 ms (crashD D l) := by
  refine ⟨by unfold crashD; dsimp only; rw [crashL_len]; exact h.t.n, rfl, h.l, cnt_nil _, fun s hs => ?_⟩
  have e1 : (crashD D l).ts.getD s [] = [] := by
    unfold crashD
    rw [List.getD_eq_getElem?_getD, List.getElem?_map]
    cases D.ts[s]? <;> rfl
  have e2 : lastS (crashD D l) s = (crashL D.hs D.ts l).getD s [] := by
    unfold lastS
    simp only [e1]
    rfl
  have h1 := crashL_get D.hs D.ts l s (by rw [h.t.t, h.t.n]) (by rw [h.t.n]; exact hs)
  have h2 := h.e s hs
  unfold allS at h2
  rw [h2] at h1
  rw [e2]
  obtain ⟨c, hc, he⟩ := List.mem_map.1 h1
  obtain ⟨j, hj, rfl⟩ := List.mem_iff_getElem.1 hc
  refine ⟨j, hj, ?_⟩
  rw [← he, List.getD_eq_getElem?_getD (l := ms.getD s []), List.getElem?_eq_getElem hj]
  rfl
abbrev EI : Value → List Int → HP := fun v y => row (Kd.int .i64) 3 v y
abbrev mays (gm : Nat) (vs : List Value) (ms : List (List Int)) (x : Option Nat) : HP := rws EI gm 29 vs [] ms x
def ka_T : Bool × List (List Nat × List Nat) := (true, [([], []), ([], []), ([1], [1]), ([2], [2]), ([], []), ([], []), ([4, 5], [4, 5]), ([6], [6]), ([7], [7]), ([8], [8]), ([9], [9]), ([3, 10, 9], [3, 10]), ([0, 0, 1, 2, 3, 4, 5, 6, 7, 8, 9, 10, 11], [0]), ([12, 11, 11, 0, 1, 2, 3, 4, 5, 6, 7, 8, 9, 10, 11], [11, 12])])
def ka_B : List Nat := [0, 0, 2, 6, 0, 0, 48, 112, 240, 496, 1008, 2046, 4095, 8191]
theorem ka_tab : rtab .any (opsOf Try.f3 22) = ka_T := by kernel_rfl
theorem ka_bits : waitsOk ka_T.2 ka_B = true := by kernel_rfl
def kb_T : Bool × List (List Nat × List Nat) := (true, [([], []), ([0], [0]), ([1], [1]), ([2, 1], [1, 2]), ([1], [1]), ([4, 1], [1, 4]), ([5, 1], [1, 5]), ([1], [1]), ([6, 7, 1], [1, 6, 7]), ([8, 1], [1, 8]), ([9, 1, 1], [1, 9]), ([10, 1], [1, 10]), ([3, 11, 1], [1, 3, 11]), ([1, 12], [1, 12]), ([13, 10, 0, 1, 2, 3, 4, 5, 6, 7, 8, 9, 10, 11, 12, 13], [0, 13])])
def kb_B : List Nat := [0, 1, 3, 7, 3, 19, 51, 3, 243, 499, 1011, 2035, 4095, 8191, 16383]
theorem kb_tab : rtab .any (opsOf Try.f3 32) = kb_T := by kernel_rfl
theorem kb_bits : waitsOk kb_T.2 kb_B = true := by kernel_rfl
set_option maxHeartbeats 16000000 in
set_option maxRecDepth 100000 in
theorem DriveKeeps_law (z0A : Option Addr) (z0c : Nat) (z0l : (List (Int × Int))) (z1A : Option Addr) (z1c : Nat) (z1l : (List (Int × Int))) (z2A : Option Addr) (z2c : Nat) (z2l : (List Int)) (w : World) (h0 : Aside0 (z0l.length ≤ z0c ∧ Kd.C (Kd.pair (Kd.int .i64) (Kd.int .i64)) w z0A z0l.length z0l ∧ (z0l.length ≤ maxLen ∧ ∀ y0_ ∈ z0l, ((Lit.int .i64 y0_.1).wf = true ∧ (Lit.int .i64 y0_.2).wf = true)))) (h1 : Aside0 (z1l.length ≤ z1c ∧ Kd.C (Kd.pair (Kd.int .i64) (Kd.int .i64)) w z1A z1l.length z1l ∧ (z1l.length ≤ maxLen ∧ ∀ y0_ ∈ z1l, ((Lit.int .i64 y0_.1).wf = true ∧ (Lit.int .i64 y0_.2).wf = true)))) (h2 : Aside0 (z2l.length ≤ z2c ∧ Kd.C (Kd.int .i64) w z2A z2l.length z2l ∧ (z2l.length ≤ maxLen ∧ ∀ y0_ ∈ z2l, (Lit.int .i64 y0_).wf = true))) :
    Calls Try.prog 3 #[.slice z0A z0l.length z0c, .slice z1A z1l.length z1c, .slice z2A z2l.length z2c] w fun e w' => e = .returned (.bool true) ∧ Below w.heap.size w w' := by
  have HR := Aside0.mk h0.out.2.1
  have HPR := Aside0.mk (pair_range h0.out.2.2.2)
  have HR1 := Aside0.mk h1.out.2.1
  have HPR1 := Aside0.mk (pair_range h1.out.2.2.2)
  have HRK := Aside0.mk h2.out.2.1
  have HKR := Aside0.mk (show ∀ x ∈ z2l, -9223372036854775808 ≤ x ∧ x ≤ 9223372036854775807 from fun x hx => i64_range (h2.out.2.2.2 x hx))
  have HKC := Aside0.mk h2.out.1
  clear h0 h1 h2
  obtain ⟨N, hN⟩ : ∃ N, z0l.length = N := ⟨_, rfl⟩
  rw [hN] at HR ⊢
  clear hN
  obtain ⟨N1, hN⟩ : ∃ N, z1l.length = N := ⟨_, rfl⟩
  rw [hN] at HR1 ⊢
  clear hN
  obtain ⟨N2, hN⟩ : ∃ N, z2l.length = N := ⟨_, rfl⟩
  rw [hN] at HRK HKC ⊢
  clear hN
  go_enter Try.func3, Try.ntmps3
  go_wp2_with fail
  refine (law03_shown.st (St.start w)).mono ?_
  rintro e w1 ⟨rfl, hs⟩
  have HS1 := Aside0.mk hs
  clear hs
  go_wp2_with fail
  refine (drive_New.st HS1.out 32).mono ?_
  intro e w2 hp
  rw [NewPost, if_pos (by decide)] at hp
  obtain ⟨g, rfl, hs⟩ := hp
  have HS2 := Aside0.mk (show St w w2 (drv g (newD 32) :: _) from hs)
  clear hs HS1
  obtain ⟨Z, hZ⟩ : ∃ Z : Array Value, Z = (List.replicate 32 nilS).toArray := ⟨_, rfl⟩
  have HZ := Aside0.mk hZ
  have hzv : ∀ W : World, (zeroValue 29).run Try.prog W = .ok (.agg Z) W := fun W => by rw [hZ]; kernel_rfl
  have HA := Aside0.mk (HS2.out.alloc_ Z 29)
  have HA2 := Aside0.mk (St.blk_row HA.out Z)
  clear hZ
  go_wp2_with (refine Own.wpList_store_row rfl 29 _ _ rfl w2.heap.size rfl Z rfl 29 _ HA.out.blk_is (by rw [HZ.out]; kernel_rfl) rfl (fun v hv => by rw [HZ.out] at hv; rw [List.eq_of_mem_replicate (show v ∈ List.replicate 32 nilS from hv)]; rfl) ?_)
  rw [HZ.out] at HA2
  obtain ⟨gm, hgm⟩ : ∃ gm, w2.heap.size = gm := ⟨_, rfl⟩
  obtain ⟨W3, hW3⟩ : ∃ W, (w2.alloc (.cells Z 29)).setRow gm Z = W := ⟨_, rfl⟩
  rw [hgm, ← HZ.out, hW3, HZ.out] at HA2
  rw [hgm, hW3]
  clear hW3 hzv HA HS2
  have HM0 := Aside0.mk (show St w W3 (mays gm (List.replicate 32 nilS) (List.replicate 32 []) none :: [drv g (newD 32)]) from St.rws_nil HA2.out [] (fun w => Kd.R_nil _ _ _ _ _))
  clear HA2
  go_loopw [11] (fun ix wr => ∃ (i : Nat) (vs : List Value) (ms : List (List Int)), ix = .int .i64 (i : Int) ∧ i ≤ 32 ∧ Aside0 (ms.length = 32 ∧ ∀ s, s < i → ms.getD s [] = [0]) ∧ Aside0 (St w wr (mays gm vs ms none :: [drv g (newD 32)]))) (fun ix _ => 32 - (intOf ix).toNat)
  case atStart => exact ⟨0, _, _, rfl, Nat.zero_le _, ⟨by rw [List.length_replicate], fun s hs => absurd hs (Nat.not_lt_zero _)⟩, HM0⟩
  case round =>
    clear HM0
    obtain ⟨i, vs, ms, rfl, hi, HI, HS⟩ := hrel
    by_cases hlt : i < 32
    · have h1 : decide ((i : Int) < 32) = true := decide_eq_true (by omega)
      have h2 : (i : Int) < 32 := by omega
      have HLT := Aside0.mk hlt
      have e1 := Aside0.mk (incM i (by omega))
      have HME := Aside0.mk (measM 32 i hlt)
      have HVL := Aside0.mk (show i < vs.length from by rw [St.rws_len HS.out, HI.out.1]; exact hlt)
      clear hlt hi
      go_wp2_with ((with_reducible refine gate_dst (N := 39) rfl ?_); refine Kd.R_lit (Kd.int .i64) _ 3 ?hg (N := 39) ?hd (xs := ([0] : List Int)) (inner := [.int .i64 0]) (ok := fun _ => True) (okp := fun _ => True) ?hr ?hp (fun _ hk => hk) trivial (Below.refl _ _) (Nat.le_refl _) (by simp) ?_; (case hd => rfl); (case hg => rfl); (case hr => first | (go_simp; done) | (go_simp; rfl)); (case hp => exact (Reps.none _ _).snoc (show Kd.M (Kd.int .i64) _ _ _ (0 : Int) [.int .i64 0] from rfl) rfl); intro vl wl hr hb hg_ hn_; clear hg_ hn_; have HL := Aside0.mk (St.swap (HS.out.row_new hb hr)); clear hr hb; obtain ⟨Al, cl, hel⟩ := (St.swap HL.out).row_slice; subst hel; have c0 := St.rws_cell HL.out i HVL.out; have f0 := St.rws_frozen HL.out i)
      have HL2 := Aside0.mk (St.rws_new HL.out HVL.out [])
      clear c0 f0
      go_roundw
      case rel =>
        refine ⟨i + 1, _, ms.set i [0], by first | rfl | rw [e1.out], HLT.out, ⟨by rw [List.length_set]; exact HI.out.1, fun s hs => ?_⟩, HL2⟩
        rw [getD_set (by rw [HI.out.1]; exact HLT.out)]
        by_cases hsi : s = i
        · rw [if_pos hsi]
        · rw [if_neg hsi]; exact HI.out.2 s (by omega)
      case measure => exact HME.out _ (by first | rfl | exact e1.out)
    · have h1 : decide ((i : Int) < 32) = false := decide_eq_false (by omega)
      have h2 : ¬ (i : Int) < 32 := by omega
      have hie : i = 32 := by omega
      have HKA := Aside0.mk (show KA 0 ms (newD 32) from ⟨TInv.start, HI.out.1, fun s hs => ⟨0, HI.out.2 s (by omega), by
        have := ReadsInv.start.e s hs
        rwa [show (List.replicate 32 (0 : Int)).getD s 0 = 0 from by rw [List.getD_eq_getElem?_getD, List.getElem?_replicate, if_pos hs]; rfl] at this⟩⟩)
      clear hlt hi hie HI
      go_upto_block 2 with fail
      go_cut [] (fun wx => ∃ (i : Nat) (vs : List Value) (ms : List (List Int)) (D : DV), i ≤ 20 ∧ Aside0 (KA i ms D) ∧ Aside0 (St w wx (mays gm vs ms none :: [drv g D])))
      case first =>
        go_wp2_with fail
        go_loopw [12] (fun ix wr => ∃ (i : Nat) (vs : List Value) (ms : List (List Int)) (D : DV), ix = .int .i64 (i : Int) ∧ i ≤ 20 ∧ Aside0 (KA i ms D) ∧ Aside0 (St w wr (mays gm vs ms none :: [drv g D]))) (fun ix _ => 20 - (intOf ix).toNat)
        case atStart => exact ⟨0, _, _, _, rfl, Nat.zero_le _, HKA, HS⟩
        case round =>
          clear HS HKA
          obtain ⟨i, vs, ms, D, rfl, hi, HI, HS⟩ := hrel
          rcases o_both 20 i N with ⟨hN, h20, h1, h2, h3, h4⟩ | ⟨hN, h1, h3⟩ | ⟨hN, h20, h1, h2, h3, h4⟩
          · obtain ⟨ad, hA, k0, k1⟩ := pairs_at HS.out.below HR.out i hN
            have HPA := Aside0.mk (fun W (hb : Below w.heap.size w W) => pairs_at hb HR.out i hN)
            subst hA
            have hp := HPR.out i
            obtain ⟨x, hx⟩ : ∃ x, z0l.getD i (0, 0) = x := ⟨_, rfl⟩
            rw [hx] at k0 k1 hp HPA
            obtain ⟨xa, xb⟩ := x
            have HXR := Aside0.mk hp
            have HI20 := Aside0.mk h20
            have HST := Aside0.mk (show D.steps < 1000000 from by have := HI.out.t.s; omega)
            obtain ⟨s, hs_, hs32⟩ : ∃ s : Nat, kindR xa 32 = s ∧ s < 32 := ⟨(kindR xa 32).toNat, by have := kindR_range xa 32 (by decide); omega, by have := kindR_range xa 32 (by decide); omega⟩
            obtain ⟨c, hc_⟩ : ∃ c, kindR xb 256 = c := ⟨_, rfl⟩
            have HS_ := Aside0.mk hs_
            have HC_ := Aside0.mk hc_
            have HS32 := Aside0.mk hs32
            have HIS := Aside0.mk (isS_in HI.out.t.n (Int.natCast_nonneg s) (show (s : Int) < (32 : Nat) from by omega))
            have HVL := Aside0.mk (show s < vs.length from by rw [St.rws_len HS.out, HI.out.l]; exact hs32)
            have e1 := Aside0.mk (incM i (by omega))
            have HME := Aside0.mk (measM 20 i h20)
            have h5 : (s : Int) < 32 := by omega
            clear hx hp h20 hi hN hs_ hc_ hs32
            go_wp2_with fail
            refine (law03_kind.st xa 32 HXR.out.1 (by decide) (by decide) _).mono ?_
            rintro e w' ⟨rfl, rfl⟩
            rw [HS_.out]
            go_wp2_with fail
            refine (law03_kind.st xb 256 HXR.out.2 (by decide) (by decide) _).mono ?_
            rintro e w' ⟨rfl, rfl⟩
            rw [HC_.out]
            go_wp2_with fail
            refine (law03_filled.st HS.out c).mono ?_
            rintro e w5 ⟨f5, rfl, hs⟩
            have HS5 := Aside0.mk (St.front 2 hs)
            clear hs HS
            go_wp2_with fail
            refine (drive_Write.st HS5.out (s : Int) (fillS_ok c).2 HST.out).mono ?_
            intro e w6 hp
            rw [WritePost, if_pos ⟨HIS.out, (fillS_ok c).1⟩, if_pos HI.out.t.free, Int.toNat_natCast] at hp
            obtain ⟨rfl, hs⟩ := hp
            have HS6 := Aside0.mk (show St w w6 (mays gm vs ms none :: [drv g (putD (stepD D) s (fillS c))]) from St.swap (St.drop (St.swap hs)))
            obtain ⟨ad2, hA2, k0, k1⟩ := HPA.out w6 HS6.out.below
            injection hA2 with hA2
            subst hA2
            clear hs HS5
            go_wp2_with fail
            refine (law03_kind.st xb 256 HXR.out.2 (by decide) (by decide) _).mono ?_
            rintro e w' ⟨rfl, rfl⟩
            rw [HC_.out]
            go_wp2_with ((with_reducible refine gate_dst (N := 74) rfl ?_); refine Kd.R_lit (Kd.int .i64) _ 3 ?hg (N := 74) ?hd (xs := ([c] : List Int)) (inner := [.int .i64 c]) (ok := fun _ => True) (okp := fun _ => True) ?hr ?hp (fun _ hk => hk) trivial (Below.refl _ _) (Nat.le_refl _) (by simp) ?_; (case hd => rfl); (case hg => rfl); (case hr => first | (go_simp; done) | (go_simp; rfl)); (case hp => exact (Reps.none _ _).snoc (show Kd.M (Kd.int .i64) _ _ _ c [.int .i64 c] from rfl) rfl); intro vl wl hr hb hg_ hn_; clear hg_ hn_; have HL := Aside0.mk (St.swap (HS6.out.row_new hb hr)); clear hr hb; obtain ⟨Al, cl, hel⟩ := (St.swap HL.out).row_slice; subst hel; have c0 := St.rws_cell HL.out s HVL.out; have f0 := St.rws_frozen HL.out s)
            have HL2 := Aside0.mk (St.rws_new HL.out HVL.out [])
            clear c0 f0 k0 k1
            go_roundw
            case rel => exact ⟨i + 1, _, _, _, by first | rfl | rw [e1.out], HI20.out, ⟨HI.out.put s HS32.out c⟩, HL2⟩
            case measure => exact HME.out _ (by first | rfl | exact e1.out)
          · clear h1 h3
            go_wp2_with fail
            go_meet
            exact ⟨i, vs, ms, D, hi, HI, HS⟩
          · clear h1 h2 h3 h4
            go_wp2_with fail
            go_meet
            exact ⟨i, vs, ms, D, hi, HI, HS⟩
      case rest =>
        obtain ⟨i, vs, ms, D, hi, HI, HS'⟩ := hcut
        clear HS
        have HST := Aside0.mk (show D.steps < 1000000 from by have := HI.out.t.s; omega)
        have HI20 := Aside0.mk hi
        clear hi
        go_wp2_with fail
        refine (drive_Flush.st HS'.out.swap HST.out).mono ?_
        intro e w5 hp
        rw [FlushPost, if_pos HI.out.t.free] at hp
        obtain ⟨rfl, hs⟩ := hp
        have HS5 := Aside0.mk (St.swap hs)
        have HKB := Aside0.mk HI.out.flush
        clear hs HS' HI HST
        go_upto_block 4 with fail
        go_cut [] (fun wx => ∃ (i : Nat) (vs : List Value) (ms : List (List Int)) (D : DV), i ≤ 41 ∧ Aside0 (KB i ms D) ∧ Aside0 (St w wx (mays gm vs ms none :: [drv g D])))
        case first =>
          go_wp2_with fail
          go_loopw [15] (fun ix wr => ∃ (q i : Nat) (vs : List Value) (ms : List (List Int)) (D : DV), ix = .int .i64 (q : Int) ∧ q ≤ 20 ∧ i ≤ q + 21 ∧ Aside0 (KB i ms D) ∧ Aside0 (St w wr (mays gm vs ms none :: [drv g D]))) (fun ix _ => 20 - (intOf ix).toNat)
          case atStart => exact ⟨0, _, _, _, _, rfl, Nat.zero_le _, by have := HI20.out; omega, HKB, HS5⟩
          case round =>
            clear HS5 HKB
            obtain ⟨q, i, vs, ms, D, rfl, hq, hi, HI, HS⟩ := hrel
            rcases o_both 20 q N1 with ⟨hN, h20, h1, h2, h3, h4⟩ | ⟨hN, h1, h3⟩ | ⟨hN, h20, h1, h2, h3, h4⟩
            · obtain ⟨ad, hA, k0, k1⟩ := pairs_at HS.out.below HR1.out q hN
              have HPA := Aside0.mk (fun W (hb : Below w.heap.size w W) => pairs_at hb HR1.out q hN)
              subst hA
              have hp := HPR1.out q
              obtain ⟨x, hx⟩ : ∃ x, z1l.getD q (0, 0) = x := ⟨_, rfl⟩
              rw [hx] at k0 k1 hp HPA
              obtain ⟨xa, xb⟩ := x
              have HXR := Aside0.mk hp
              have HQ20 := Aside0.mk (show q < 20 ∧ i ≤ q + 21 from ⟨h20, hi⟩)
              have HST := Aside0.mk (show D.steps < 1000000 from by have := HI.out.t.s; omega)
              have HDK := Aside0.mk (drv_out HS.out.swap).1
              obtain ⟨s, hs_, hs32⟩ : ∃ s : Nat, kindR xa 32 = s ∧ s < 32 := ⟨(kindR xa 32).toNat, by have := kindR_range xa 32 (by decide); omega, by have := kindR_range xa 32 (by decide); omega⟩
              obtain ⟨c, hc_⟩ : ∃ c, kindR xb 256 = c := ⟨_, rfl⟩
              have HS_ := Aside0.mk hs_
              have HCC := Aside0.mk hc_
              have HS32 := Aside0.mk hs32
              have HIS := Aside0.mk (isS_in HI.out.t.n (Int.natCast_nonneg s) (show (s : Int) < (32 : Nat) from by omega))
              have HVL := Aside0.mk (show s < vs.length from by rw [St.rws_len HS.out, HI.out.l]; exact hs32)
              have e1 := Aside0.mk (incM q (by omega))
              have HME := Aside0.mk (measM 20 q h20)
              have h5 : (s : Int) < 32 := by omega
              clear hx hp h20 hi hq hN hs_ hc_ hs32
              go_wp2_with fail
              refine (law03_kind.st xa 32 HXR.out.1 (by decide) (by decide) _).mono ?_
              rintro e w' ⟨rfl, rfl⟩
              rw [HS_.out]
              go_wp2_with fail
              refine (law03_kind.st xb 256 HXR.out.2 (by decide) (by decide) _).mono ?_
              rintro e w' ⟨rfl, rfl⟩
              rw [HCC.out]
              go_wp2_with fail
              refine (law03_filled.st HS.out c).mono ?_
              rintro e w5 ⟨f5, rfl, hs⟩
              have HS5 := Aside0.mk (St.front 2 hs)
              clear hs HS
              go_wp2_with fail
              refine (drive_Write.st HS5.out (s : Int) (fillS_ok c).2 HST.out).mono ?_
              intro e w6 hp
              rw [WritePost, if_pos ⟨HIS.out, (fillS_ok c).1⟩, if_pos HI.out.t.free, Int.toNat_natCast] at hp
              obtain ⟨rfl, hs⟩ := hp
              have hs := (St.rws_take (show St w w6 (mays gm vs ms none :: [drv g (putD (stepD D) s (fillS c))]) from St.swap (St.drop (St.swap hs))) s HVL.out []).drew
              obtain ⟨v0, hv0⟩ : ∃ v0, vs.getD s undef = v0 := ⟨_, rfl⟩
              obtain ⟨my, hmy⟩ : ∃ my, ms.getD s [] = my := ⟨_, rfl⟩
              rw [hv0, hmy] at hs
              obtain ⟨A2, c2, hv2⟩ := (St.swap hs).row_slice
              subst hv2
              obtain ⟨n2, hn2⟩ : ∃ n2, my.length = n2 := ⟨_, rfl⟩
              rw [hn2] at hs hv0
              have HML := Aside0.mk (show my.length ≤ 50 from by
                have h9 := HI.out.len HDK.out s HS32.out
                rw [hmy] at h9
                have := HQ20.out
                omega)
              have HMY := Aside0.mk hmy
              have HS6 := Aside0.mk hs
              have HSS : Aside0 (∀ W (ps' qs : List HP), St w W (qs ++ (mays gm vs ms (some s) :: ps')) → (fun W : World => W.cell? ⟨gm, s, none⟩ = some (.slice A2 n2 c2) ∧ W.cell? (ad.add (q * 2)) = some (.int .i64 xa) ∧ W.cell? ⟨(ad.add (q * 2)).block, (ad.add (q * 2)).off + 1, none⟩ = some (.int .i64 xb)) W) := ⟨fun W ps' qs H => by
                have H1 := St.drop_to qs H
                obtain ⟨ad2, hA2, q0, q1⟩ := HPA.out W H.below
                injection hA2 with hA2
                subst hA2
                exact ⟨by rw [St.rws_cell H1 s HVL.out, hv0], q0, q1⟩⟩
              have HFZ := Aside0.mk (fun W (ps' : List HP) (H : St w W (mays gm vs ms (some s) :: ps')) => St.rws_frozen H s)
              clear hs HS5 hmy hv0 hn2 k0 k1 HPA
              go_upto_region 22 with fail
              refine stepStartD (fun W : World => W.cell? ⟨gm, s, none⟩ = some (.slice A2 n2 c2) ∧ W.cell? (ad.add (q * 2)) = some (.int .i64 xa) ∧ W.cell? ⟨(ad.add (q * 2)).block, (ad.add (q * 2)).off + 1, none⟩ = some (.int .i64 xb)) 14 [0, 1, 2, 3, 4, 5, 6, 7, 8, 9, 10, 11, 12, 13] [13] ka_tab ka_bits (by kernel_rfl) rfl (HSS.out _ _ [] HS6.out) (fun HT_ HW_ hHeld => ?_)
              iterate 3 (refine stepPu (v := ?_) rfl rfl (any_of HT_.out (by kernel_rfl)) (fun _ _ _ h => h) (Or.inl ⟨by rfl, ?_⟩) (a' := ?_) ?_ ?_; rotate_left; (· intro w'; go_simp; with_reducible rfl); rotate_left; (· (simp only [Act.put, List.setIfInBounds_toArray, List.set_cons_zero, List.set_cons_succ, i64_w, i32_w]; rfl)))
              (refine stepLd (v := ?_) rfl rfl (take_ofW HT_.out HW_.out (by kernel_rfl)) (fun _ _ _ h => h) (Or.inl ⟨by rfl, ?_⟩) hHeld (a' := ?_) ?_ ?_; rotate_left; (· rintro w' ⟨s0, s1, s2⟩; go_simp; with_reducible rfl); rotate_left; (· (simp only [Act.put, List.setIfInBounds_toArray, List.set_cons_zero, List.set_cons_succ, i64_w, i32_w]; rfl)))
              iterate 4 (refine stepPu (v := ?_) rfl rfl (any_of HT_.out (by kernel_rfl)) (fun _ _ _ h => h) (Or.inl ⟨by rfl, ?_⟩) (a' := ?_) ?_ ?_; rotate_left; (· intro w'; go_simp; with_reducible rfl); rotate_left; (· (simp only [Act.put, List.setIfInBounds_toArray, List.set_cons_zero, List.set_cons_succ, i64_w, i32_w]; rfl)))
              (refine stepLd (v := ?_) rfl rfl (take_ofW HT_.out HW_.out (by kernel_rfl)) (fun _ _ _ h => h) (Or.inl ⟨by rfl, ?_⟩) hHeld (a' := ?_) ?_ ?_; rotate_left; (· rintro w' ⟨s0, s1, s2⟩; go_simp; with_reducible rfl); rotate_left; (· (simp only [Act.put, List.setIfInBounds_toArray, List.set_cons_zero, List.set_cons_succ, i64_w, i32_w]; rfl)))
              refine stepOne rfl rfl (one_of HT_.out (by kernel_rfl)) (by decide) (fun K hK => ?_)
              refine goes_ Try.func11 (by kernel_rfl) rfl #[.int .i64 xb, .int .i64 256] (by rfl) rfl rfl (by first | rfl | (simp only [List.map_toArray, List.map_cons, List.map_nil]; rfl)) ?_
              with_reducible refine (law03_kind.st xb 256 HXR.out.2 (by decide) (by decide) _).mono ?_
              rintro e w' ⟨rfl, rfl⟩
              rw [HCC.out]
              refine ⟨_, rfl, ?_⟩
              refine hK.out _ _ (hHeld) (fun hHeld => ?_)
              clear hK K
              refine norm_ (a' := ?_) ?_ ?_
              rotate_left
              · show Act.put _ (some 113) _ = _
                simp only [Act.put, List.setIfInBounds_toArray, List.set_cons_zero, List.set_cons_succ, i64_w, i32_w]
                rfl
              refine stepOne rfl rfl (one_of HT_.out (by kernel_rfl)) (by decide) (fun K hK => ?_)
              refine Kd.R_lit_step (Kd.int .i64) _ 3 (by rfl) rfl (xs := [c]) (inner := [.int .i64 c]) (ok := fun _ => True) (okp := fun _ => True) ?_ ?_ (fun _ hk => hk) trivial (Below.refl _ _) (Nat.le_refl _) (by simp) ?_
              · first | (go_simp; done) | (go_simp; rfl)
              · exact (Reps.none _ _).snoc (show Kd.M (Kd.int .i64) _ _ _ c [.int .i64 c] from rfl) rfl
              intro vl wl hr hb hg_ hn_
              clear hg_ hn_
              have HS7 := Aside0.mk (HS6.out.row_new hb hr)
              clear hr hb
              obtain ⟨Al, cl, hel⟩ := (HS7.out).row_slice
              subst hel
              refine hK.out _ _ (HSS.out _ _ [_] HS7.out) (fun hHeld => ?_)
              clear hK K
              refine norm_ (a' := ?_) ?_ ?_
              rotate_left
              · show Act.put _ (some 114) _ = _
                simp only [Act.put, List.setIfInBounds_toArray, List.set_cons_zero, List.set_cons_succ, i64_w, i32_w]
                rfl
              refine stepOne rfl rfl (one_of HT_.out (by kernel_rfl)) (by decide) (fun K hK => ?_)
              refine St.append_rows_step (d := Kd.int .i64) (by rfl) (.tmp 107) (.tmp 114) 23 3 (.int .i64 0) 8 rfl Try.underlying23 info64 rfl (by decide) (by decide) _ my [c] Al 1 cl rfl rfl (St.front 2 HS7.out) (HS7.out.row_C.2.2) (fun _ _ h => h) (by have := HML.out; omega) ?_
              intro v8 w8 hs8
              obtain ⟨A8, c8, he8⟩ := hs8.row_slice
              subst he8
              have HS8 := Aside0.mk (St.swap (St.drop (St.swap hs8)))
              clear hs8
              refine hK.out _ _ (HSS.out _ _ [] HS8.out) (fun hHeld => ?_)
              clear hK K
              refine norm_ (a' := ?_) ?_ ?_
              rotate_left
              · show Act.put _ (some 115) _ = _
                simp only [Act.put, List.setIfInBounds_toArray, List.set_cons_zero, List.set_cons_succ, i64_w, i32_w]
                rfl
              (refine stepPu (v := ?_) rfl rfl (any_of HT_.out (by kernel_rfl)) (fun _ _ _ h => h) (Or.inl ⟨by rfl, ?_⟩) (a' := ?_) ?_ ?_; rotate_left; (· intro w'; go_simp; with_reducible rfl); rotate_left; (· (simp only [Act.put, List.setIfInBounds_toArray, List.set_cons_zero, List.set_cons_succ, i64_w, i32_w]; rfl)))
              refine stepLast rfl rfl (one_of HT_.out (by kernel_rfl)) (by decide) (fun K hK => ?_)
              refine step_store_val (by rfl) 23 (.tmp 116) (.tmp 115) rfl gm s _ rfl rfl rfl rfl (by rw [St.rws_cell HS8.out s HVL.out]; rfl) (HFZ.out _ _ HS8.out) (by kernel_rfl) ?_
              have HS9 := Aside0.mk (St.rws_put (St.rws_set HS8.out HVL.out _) (List.getElem?_set_self HVL.out))
              rw [show (my ++ [c]).length = my.length + 1 from by simp] at HS9
              refine hK.out _ _ ?_
              clear hK K
              refine done_ (done_of HT_.out (by kernel_rfl)) ?_
              clear HT_ HW_ hHeld HSS
              simp only [Act.put]
              go_wp2_with fail
              go_roundw
              case rel =>
                have hk := HI.out.put s HS32.out c
                rw [HMY.out] at hk
                exact ⟨q + 1, i + 1, _, _, _, by first | rfl | rw [e1.out], HQ20.out.1, by have := HQ20.out.2; omega, ⟨hk⟩, HS9⟩
              case measure => exact HME.out _ (by first | rfl | exact e1.out)
            · clear h1 h3
              go_wp2_with fail
              go_meet
              exact ⟨i, vs, ms, D, by omega, HI, HS⟩
            · clear h1 h2 h3 h4
              go_wp2_with fail
              go_meet
              exact ⟨i, vs, ms, D, by omega, HI, HS⟩
        case rest =>
          obtain ⟨i, vs, ms, D, hi, HI, HS⟩ := hcut
          clear HS5 HKB
          have HST := Aside0.mk (show D.steps < 1000000 from by have := HI.out.t.s; omega)
          clear hi
          go_wp2_with fail
          refine (drive_Crash.st HS.out.swap (KC.came HRK.out _) HKC.out HKR.out HST.out).mono ?_
          rintro e w6 ⟨rfl, hs⟩
          have HS6 := Aside0.mk (St.swap hs)
          have HK2 := Aside0.mk (HI.out.crash z2l)
          obtain ⟨D2, hD2⟩ : ∃ D2, crashD D z2l = D2 := ⟨_, rfl⟩
          rw [hD2] at HS6 HK2
          clear hs HS HI HST hD2
          go_wp2_with fail
          go_loopw [17] (fun sx wr => ∃ s : Nat, sx = .int .i64 (s : Int) ∧ s ≤ 32 ∧ Aside0 (St w wr (mays gm vs ms none :: [drv g D2]))) (fun sx _ => 32 - (intOf sx).toNat)
          case atStart => exact ⟨0, rfl, Nat.zero_le _, HS6⟩
          case round =>
            clear HS6
            obtain ⟨s, rfl, hs, HS⟩ := hrel
            by_cases hlt : s < 32
            · have h1 : decide ((s : Int) < 32) = true := decide_eq_true (by omega)
              have h2 : (s : Int) < 32 := by omega
              have HLT := Aside0.mk hlt
              have e1 := Aside0.mk (incM s (by omega))
              have HME := Aside0.mk (measM 32 s hlt)
              have HVL := Aside0.mk (show s < vs.length from by rw [St.rws_len HS.out, HK2.out.l]; exact hlt)
              clear hs
              go_wp2_with fail
              refine (drive_Read.st HS.out.swap (s : Int)).mono ?_
              intro e w7 hp
              rw [ReadPost, if_neg (by rw [HK2.out.o]; decide), if_neg (by rw [isS_in HK2.out.n (Int.natCast_nonneg s) h2]; decide), Int.toNat_natCast] at hp
              obtain ⟨f5, rfl, hs⟩ := hp
              obtain ⟨x, hx⟩ : ∃ x, lastS D2 s = x := ⟨_, rfl⟩
              rw [hx] at hs
              have hs7 := St.rws_take (show St w w7 (mays gm vs ms none :: rowS (sl f5) x :: [drv g D2]) from St.front 2 hs) s HVL.out []
              obtain ⟨v0, hv0⟩ : ∃ v0, vs.getD s undef = v0 := ⟨_, rfl⟩
              obtain ⟨my, hmy⟩ : ∃ my, ms.getD s [] = my := ⟨_, rfl⟩
              rw [hv0, hmy] at hs7
              obtain ⟨A2, c2, hv2⟩ := (St.swap hs7).row_slice
              subst hv2
              obtain ⟨n2, hn2⟩ : ∃ n2, my.length = n2 := ⟨_, rfl⟩
              rw [hn2] at hs7 hv0
              have HEX := Aside0.mk (show ∃ j, j < n2 ∧ x = fillS (my.getD j 0) from by
                obtain ⟨j, hj, he⟩ := HK2.out.e s HLT.out
                rw [hmy, hn2] at hj
                rw [hmy, hx] at he
                exact ⟨j, hj, he⟩)
              have HS7 := Aside0.mk (show St w w7 (mays gm vs ms (some s) :: EI (.slice A2 n2 c2) my :: rowS (sl f5) x :: [drv g D2]) from hs7)
              have HMY := Aside0.mk hmy
              have HV0 := Aside0.mk hv0
              clear hs hs7 hx hmy hv0 hn2 hlt
              go_upto_block 8 with fail
              go_cut [20] (fun v wx => v = .bool true ∧ Aside0 (St w wx (mays gm vs ms (some s) :: EI (.slice A2 n2 c2) my :: rowS (sl f5) x :: [drv g D2])))
              case first =>
                go_wp2_with fail
                go_loopw [20, 21] (fun fx jx wr => ∃ (fb : Bool) (j : Nat), fx = .bool fb ∧ jx = .int .i64 (j : Int) ∧ j ≤ n2 ∧ Aside0 (∀ q, q < j → x = fillS (my.getD q 0) → fb = true) ∧ Aside0 (St w wr (mays gm vs ms (some s) :: EI (.slice A2 n2 c2) my :: rowS (sl f5) x :: [drv g D2]))) (fun _ jx _ => n2 - (intOf jx).toNat)
                case atStart => exact ⟨false, 0, rfl, rfl, Nat.zero_le _, ⟨fun q hq => absurd hq (Nat.not_lt_zero _)⟩, HS7⟩
                case round =>
                  clear HS7
                  obtain ⟨fb, j, rfl, rfl, hj, HF, HS⟩ := hrel
                  have c0 := St.rws_cell HS.out s HVL.out
                  rw [HV0.out] at c0
                  by_cases hlt : j < n2
                  · have h3 : decide ((j : Int) < (n2 : Int)) = true := decide_eq_true (by omega)
                    have h4 : (j : Int) < (n2 : Int) := by omega
                    have HLJ := Aside0.mk hlt
                    obtain ⟨ga, hA, hc, _⟩ := (St.swap HS.out).row_at j hlt 0
                    subst hA
                    obtain ⟨mj, hmj⟩ : ∃ mj, my.getD j 0 = mj := ⟨_, rfl⟩
                    rw [hmj] at hc
                    have HMJ := Aside0.mk hmj
                    have hn2 : n2 ≤ 9223372036854775807 := ((St.swap HS.out).row_C).2.2.2.1
                    have e2 := Aside0.mk (show wrap64 ((j : Int) + 1) = ((j + 1 : Nat) : Int) from by unfold wrap64; omega)
                    have HM2 := Aside0.mk (measM n2 j hlt)
                    have HZ := Aside0.mk (St.drew HS.out)
                    have HSS : Aside0 (∀ W (qs : List HP), St w W (qs ++ (mays gm vs ms (some s) :: EI (.slice (some ⟨ga, 0, none⟩) n2 c2) my :: rowS (sl f5) x :: [drv g D2])) → (fun W : World => (convert 33 9 (sl f5)).run Try.prog W = .ok (.string (strOfNums x)) W ∧ W.cell? ⟨gm, s, none⟩ = some (.slice (some ⟨ga, 0, none⟩) n2 c2) ∧ W.cell? ⟨ga, j, none⟩ = some (.int .i64 mj)) W) := ⟨fun W qs H => by
                      have H1 := St.drop_to qs H
                      obtain ⟨ga', hA', hc', _⟩ := (St.swap H1).row_at j HLJ.out 0
                      injection hA' with hA'
                      injection hA' with hA'
                      subst hA'
                      rw [hmj] at hc'
                      exact ⟨bytes_run (St.front 2 H1), by rw [St.rws_cell H1 s HVL.out, HV0.out], hc'⟩⟩
                    clear hlt hc hmj hn2 hj
                    cases fb with
                    | false =>
                      go_upto_region 32 with fail
                      clear c0
                      refine stepStartD (fun W : World => (convert 33 9 (sl f5)).run Try.prog W = .ok (.string (strOfNums x)) W ∧ W.cell? ⟨gm, s, none⟩ = some (.slice (some ⟨ga, 0, none⟩) n2 c2) ∧ W.cell? ⟨ga, j, none⟩ = some (.int .i64 mj)) 15 [0, 1, 2, 3, 4, 5, 6, 7, 8, 9, 10, 11, 12, 13, 14] [] kb_tab kb_bits (by kernel_rfl) rfl (HSS.out _ [] HZ.out) (fun HT_ HW_ hHeld => ?_)
                      iterate 3 (refine stepPu (v := ?_) rfl rfl (any_of HT_.out (by kernel_rfl)) (fun _ _ _ h => h) (Or.inl ⟨by rfl, ?_⟩) (a' := ?_) ?_ ?_; rotate_left; (· intro w'; go_simp; with_reducible rfl); rotate_left; (· (simp only [Act.put, List.setIfInBounds_toArray, List.set_cons_zero, List.set_cons_succ, i64_w, i32_w]; rfl)))
                      (refine stepLd (v := ?_) rfl rfl (take_ofW HT_.out HW_.out (by kernel_rfl)) (fun _ _ _ h => h) (Or.inl ⟨by rfl, ?_⟩) hHeld (a' := ?_) ?_ ?_; rotate_left; (· rintro w' ⟨s0, s1, s2⟩; go_simp; with_reducible rfl); rotate_left; (· (simp only [Act.put, List.setIfInBounds_toArray, List.set_cons_zero, List.set_cons_succ, i64_w, i32_w]; rfl)))
                      iterate 2 (refine stepPu (v := ?_) rfl rfl (any_of HT_.out (by kernel_rfl)) (fun _ _ _ h => h) (Or.inl ⟨by rfl, ?_⟩) (a' := ?_) ?_ ?_; rotate_left; (· intro w'; go_simp; with_reducible rfl); rotate_left; (· (simp only [Act.put, List.setIfInBounds_toArray, List.set_cons_zero, List.set_cons_succ, i64_w, i32_w]; rfl)))
                      (refine stepLd (v := ?_) rfl rfl (take_ofW HT_.out HW_.out (by kernel_rfl)) (fun _ _ _ h => h) (Or.inl ⟨by rfl, ?_⟩) hHeld (a' := ?_) ?_ ?_; rotate_left; (· rintro w' ⟨s0, s1, s2⟩; go_simp; with_reducible rfl); rotate_left; (· (simp only [Act.put, List.setIfInBounds_toArray, List.set_cons_zero, List.set_cons_succ, i64_w, i32_w]; rfl)))
                      iterate 2 (refine stepPu (v := ?_) rfl rfl (any_of HT_.out (by kernel_rfl)) (fun _ _ _ h => h) (Or.inl ⟨by rfl, ?_⟩) (a' := ?_) ?_ ?_; rotate_left; (· intro w'; go_simp; with_reducible rfl); rotate_left; (· (simp only [Act.put, List.setIfInBounds_toArray, List.set_cons_zero, List.set_cons_succ, i64_w, i32_w]; rfl)))
                      (refine stepLd (v := ?_) rfl rfl (take_ofW HT_.out HW_.out (by kernel_rfl)) (fun _ _ _ h => h) (Or.inl ⟨by rfl, ?_⟩) hHeld (a' := ?_) ?_ ?_; rotate_left; (· rintro w' ⟨s0, s1, s2⟩; go_simp; with_reducible rfl); rotate_left; (· (simp only [Act.put, List.setIfInBounds_toArray, List.set_cons_zero, List.set_cons_succ, i64_w, i32_w]; rfl)))
                      refine stepOne rfl rfl (one_of HT_.out (by kernel_rfl)) (by decide) (fun K hK => ?_)
                      refine goes_ Try.func13 (by kernel_rfl) rfl #[.int .i64 mj] (by rfl) rfl rfl (by first | rfl | (simp only [List.map_toArray, List.map_cons, List.map_nil]; rfl)) ?_
                      with_reducible refine (law03_filled.st HZ.out mj).mono ?_
                      rintro e x1 ⟨q1, rfl, hs⟩
                      refine ⟨_, rfl, ?_⟩
                      have HF1 := Aside0.mk hs
                      clear hs
                      refine hK.out _ _ (HSS.out _ [_] HF1.out) (fun hHeld => ?_)
                      clear hK K
                      refine norm_ (a' := ?_) ?_ ?_
                      rotate_left
                      · show Act.put _ (some 148) _ = _
                        simp only [Act.put, List.setIfInBounds_toArray, List.set_cons_zero, List.set_cons_succ, i64_w, i32_w]
                        rfl
                      refine stepOne rfl rfl (one_of HT_.out (by kernel_rfl)) (by decide) (fun K hK => ?_)
                      refine step_ran (v := .string (strOfNums (fillS mj))) (w1 := x1) (by rfl) (by
                        have h9 : (convert 33 9 (.slice (some ⟨q1, 0, none⟩) 256 256)).run Try.prog x1 = .ok (.string (strOfNums (fillS mj))) x1 := bytes_run HF1.out
                        simp [execOp, Act.eval, h9, Result.andThen]) ?_
                      refine hK.out _ _ (HSS.out _ [_] HF1.out) (fun hHeld => ?_)
                      clear hK K
                      refine norm_ (a' := ?_) ?_ ?_
                      rotate_left
                      · show Act.put _ (some 149) _ = _
                        simp only [Act.put, List.setIfInBounds_toArray, List.set_cons_zero, List.set_cons_succ, i64_w, i32_w]
                        rfl
                      iterate 3 (refine stepPu (v := ?_) rfl rfl (any_of HT_.out (by kernel_rfl)) (fun _ _ _ h => h) (Or.inl ⟨by rfl, ?_⟩) (a' := ?_) ?_ ?_; rotate_left; (· intro w'; go_simp; with_reducible rfl); rotate_left; (· (simp only [Act.put, List.setIfInBounds_toArray, List.set_cons_zero, List.set_cons_succ, i64_w, i32_w]; rfl)))
                      refine done_ (done_of HT_.out (by kernel_rfl)) ?_
                      clear HT_ HW_ hHeld HSS
                      go_wp2_with fail
                      go_roundw
                      case rel =>
                        refine ⟨_, j + 1, rfl, by first | rfl | rw [e2.out], HLJ.out, ⟨fun q hq he => ?_⟩, ⟨HF1.out.drop⟩⟩
                        by_cases hqj : q = j
                        · rw [hqj, HMJ.out] at he
                          rw [he]
                          exact beq_self_eq_true _
                        · have := HF.out q (by omega) he
                          cases this
                      case measure => exact HM2.out _ (by first | rfl | exact e2.out)
                    | true =>
                      go_upto_region 32 with fail
                      clear c0
                      refine stepStartD (fun W : World => (convert 33 9 (sl f5)).run Try.prog W = .ok (.string (strOfNums x)) W ∧ W.cell? ⟨gm, s, none⟩ = some (.slice (some ⟨ga, 0, none⟩) n2 c2) ∧ W.cell? ⟨ga, j, none⟩ = some (.int .i64 mj)) 15 [0, 1, 2, 3, 4, 5, 6, 7, 8, 9, 10, 11, 12, 13, 14] [] kb_tab kb_bits (by kernel_rfl) rfl (HSS.out _ [] HZ.out) (fun HT_ HW_ hHeld => ?_)
                      iterate 2 (refine stepPu (v := ?_) rfl rfl (any_of HT_.out (by kernel_rfl)) (fun _ _ _ h => h) (Or.inl ⟨by rfl, ?_⟩) (a' := ?_) ?_ ?_; rotate_left; (· intro w'; go_simp; with_reducible rfl); rotate_left; (· (simp only [Act.put, List.setIfInBounds_toArray, List.set_cons_zero, List.set_cons_succ, i64_w, i32_w]; rfl)))
                      iterate 11 (refine stepPu (v := undef) rfl rfl (any_of HT_.out (by kernel_rfl)) (fun _ _ _ h => h) (Or.inr ⟨by rfl, rfl⟩) (a' := ?_) ?_ ?_; rotate_left; (· (simp only [Act.put, List.setIfInBounds_toArray, List.set_cons_zero, List.set_cons_succ, i64_w, i32_w]; rfl)))
                      iterate 2 (refine stepPu (v := ?_) rfl rfl (any_of HT_.out (by kernel_rfl)) (fun _ _ _ h => h) (Or.inl ⟨by rfl, ?_⟩) (a' := ?_) ?_ ?_; rotate_left; (· intro w'; go_simp; with_reducible rfl); rotate_left; (· (simp only [Act.put, List.setIfInBounds_toArray, List.set_cons_zero, List.set_cons_succ, i64_w, i32_w]; rfl)))
                      refine done_ (done_of HT_.out (by kernel_rfl)) ?_
                      clear HT_ HW_ hHeld HSS
                      go_wp2_with fail
                      go_roundw
                      case rel => exact ⟨true, j + 1, rfl, by first | rfl | rw [e2.out], HLJ.out, ⟨fun _ _ _ => rfl⟩, HZ⟩
                      case measure => exact HM2.out _ (by first | rfl | exact e2.out)
                  · have h3 : decide ((j : Int) < (n2 : Int)) = false := decide_eq_false (by omega)
                    have h4 : ¬ (j : Int) < (n2 : Int) := by omega
                    obtain rfl : fb = true := by
                      obtain ⟨q, hq, he⟩ := HEX.out
                      exact HF.out q (by omega) he
                    clear hlt hj
                    go_wp2_with fail
                    go_meet
                    exact ⟨rfl, HS⟩
              case rest =>
                obtain ⟨rfl, HS8⟩ := hcut
                clear HS HS7
                have HS9 := Aside0.mk (St.drop (St.swap (St.rws_put HS8.out (by rw [← HV0.out, List.getD_eq_getElem?_getD, List.getElem?_eq_getElem HVL.out]; rfl))))
                rw [show ms.set s my = ms from by
                  rw [← HMY.out]
                  apply List.ext_getElem?
                  intro k
                  by_cases hk : s = k
                  · subst hk
                    rw [List.getElem?_set_self (by rw [HK2.out.l]; exact HLT.out), List.getD_eq_getElem?_getD, List.getElem?_eq_getElem (by rw [HK2.out.l]; exact HLT.out)]
                    rfl
                  · rw [List.getElem?_set_ne hk]] at HS9
                go_wp2_with fail
                go_roundw
                case rel => exact ⟨s + 1, by first | rfl | rw [e1.out], HLT.out, HS9⟩
                case measure => exact HME.out _ (by first | rfl | exact e1.out)
            · have h1 : decide ((s : Int) < 32) = false := decide_eq_false (by omega)
              have h2 : ¬ (s : Int) < 32 := by omega
              have hct := HK2.out.c
              clear hs hlt
              go_wp2_with fail
              refine (drive_Cached.st HS.out.swap).mono ?_
              rintro e w' ⟨rfl, rfl⟩
              rw [hct]
              go_wp2
              go_ret
              exact ⟨rfl, HS.out.below⟩
end Go.Proofs.Ytoloibjdiojmlaa.P
