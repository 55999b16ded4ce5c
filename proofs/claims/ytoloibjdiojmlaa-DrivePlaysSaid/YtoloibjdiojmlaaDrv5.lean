/- Crash. -/
import Derived.Test.YtoloibjdiojmlaaDrv4
import Derived.Test.YtoloibjdiojmlaaDrvK
namespace Go.Proofs.Ytoloibjdiojmlaa.P
open Go.RowKit Go.Proofs.YtoloibjdiojmlaaW.PrintWords Go.Proofs.YtoloibjdiojmlaaW.PrintLast Go.Proofs.YtoloibjdiojmlaaW.PrintMore Go.Proofs.Ytoloibjdiojmlaa.Sep
set_option linter.unusedVariables false
set_option linter.unusedSimpArgs false
attribute [local go_sem] max2_int min2_int max_two min_two max_three min_three max_four min_four
/-- A row of numbers reads l wherever the parts ps stand. -/
def KC (w0 : World) (ps : List HP) (A : Option Addr) (n : Nat) (l : List Int) : Prop := ∀ W qs, St w0 W (qs ++ ps) → Kd.C (Kd.int .i64) W A n l
section
variable {w0 w : World} {ps : List HP} {g : Nat} {D : DV}
theorem St.drop_to : ∀ (qs : List HP) {ps : List HP}, St w0 w (qs ++ ps) → St w0 w ps
  | [], _, h => h
  | q :: qs, _, h => St.drop_to qs (St.drop h)
theorem KC.came {A : Option Addr} {n : Nat} {l : List Int} (h : Kd.C (Kd.int .i64) w0 A n l) (ps : List HP) : KC w0 ps A n l := fun W qs H => Kd.C_below h H.below
theorem KC.part {e c n : Nat} {A : Option Addr} {l : List Int} (ps : List HP) : KC w0 (row (Kd.int .i64) e (.slice A n c) l :: ps) A n l := fun W qs H => ((St.drop_to qs H).row_C).2.2
theorem KC.nil (ps : List HP) : KC w0 ps none 0 [] := fun W qs H => ⟨rfl, Nat.zero_le _, fun q => absurd q (Nat.lt_irrefl _)⟩
theorem KC.cut {A : Option Addr} {n c : Nat} {l : List Int} (h : KC w0 ps A n l) (hw : St w0 w ps) (h0 : 0 < n) (hc : n ≤ c) : ∃ A1, (∀ W : World, (Instr.slice 23 (.slice A n c) (some (.int .i64 1)) none none).run Try.prog W = .ok (.slice A1 (n - 1) (c - 1)) W) ∧ KC w0 ps A1 (n - 1) l.tail := by
  refine ⟨if c = 1 then A else A.map (·.add 1), fun W => ?_, fun W qs H => ?_⟩
  · obtain ⟨i, hi0, hs⟩ := Option.map_eq_some_iff.1 (show (Try.prog.info? 3).map (·.size) = some 1 from by kernel_rfl)
    have := cut_from (P := Try.prog) 23 3 .i64 Try.underlying23 hi0 1 hs A n c 1 (by omega) (by omega) W
    exact this
  · have hC := h W qs H
    have hl : l.length = n := hC.1
    have := Own.C_drop (c := c) (by rw [← hl] at hC; exact hC) 1 (by omega) (by omega)
    rw [List.drop_one, List.length_tail, hl] at this
    exact this
theorem negw {x : Int} (h : -9223372036854775808 ≤ x) (h0 : x < 0) : wrap64 (-(wrap64 (x + 1))) = pickY x := by
  unfold pickY
  rw [if_pos h0]
  unfold wrap64
  omega
def cr_T : Bool × List (List Nat × List Nat) := (true, [([], []), ([0], [0]), ([1], [1]), ([2], [2]), ([], []), ([], []), ([], []), ([6], [6]), ([5, 7], [5, 7]), ([8], [8]), ([3, 4, 0, 1, 2, 3, 4, 5, 6, 7, 8, 9], [3, 4]), ([10, 9, 0, 1, 2, 3, 4, 5, 6, 7, 8, 9], [9, 10])])
def cr_B : List Nat := [0, 1, 3, 7, 0, 0, 0, 64, 224, 480, 1023, 2047]
theorem cr_tab : rtab .any (opsOf Try.f15 12) = cr_T := by kernel_rfl
theorem cr_bits : waitsOk cr_T.2 cr_B = true := by kernel_rfl
def cq_T : Bool × List (List Nat × List Nat) := (true, [([], []), ([0], [0]), ([1], [1]), ([], []), ([3], [3]), ([2, 0, 1, 2], [2]), ([4, 5, 0, 1, 2, 3, 4, 5], [0, 3, 4])])
def cq_B : List Nat := [0, 1, 3, 0, 8, 7, 63]
theorem cq_tab : rtab .any (opsOf Try.f15 7) = cq_T := by kernel_rfl
theorem cq_bits : waitsOk cq_T.2 cq_B = true := by kernel_rfl
set_option maxHeartbeats 8000000 in
set_option maxRecDepth 100000 in
theorem drive_Crash.st {A0 : Option Addr} {n0 c0 : Nat} {l : List Int} (h : St w0 w (drv g D :: ps)) (hk : KC w0 ps A0 n0 l) (hc : n0 ≤ c0) (hr : ∀ x ∈ l, -9223372036854775808 ≤ x ∧ x ≤ 9223372036854775807) (hst : D.steps < 1000000) :
    Calls Try.prog 15 #[.pointer (some ⟨g, 0, none⟩), .slice A0 n0 c0] w fun e w' => e = .returned (.tuple #[]) ∧ St w0 w' (drv g (crashD D l) :: ps) := by
  obtain ⟨hp, ⟨A, c, b, m⟩, hs1⟩ := drv_out h
  have HP := Aside0.mk (crashD_ok hp l)
  have HK := Aside0.mk hk
  have HR := Aside0.mk hr
  have HBD := Aside0.mk (show ∀ i, (D.ts.getD i []).length < 1000000 from fun i => by
    rw [List.getD_eq_getElem?_getD]
    cases hq : D.ts[i]? with
    | none => decide
    | some t => exact Nat.lt_of_le_of_lt (hp.2.2.2 t (List.mem_of_getElem? hq)) hst)
  have HLE := Aside0.mk hp.2.1
  have HTH := Aside0.mk hp.1
  obtain ⟨hs, ts, off, fuse, steps⟩ := D
  unfold drvM at hs1
  dsimp only at hs1 HTH HLE HBD
  obtain ⟨hl, hhl⟩ : ∃ hl, hs.length = hl := ⟨_, rfl⟩
  rw [hhl] at hs1 HTH HLE
  have HHL := Aside0.mk hhl
  have HM0 := Aside0.mk (CrashMid.start (l := l) hp.1)
  have HC0 := Aside0.mk hc
  dsimp only at HM0
  have HS1 := Aside0.mk (show St w0 w (mpo b (cntT ts) 66 m (look ts) none none :: blk g (dCells A hl c b off fuse steps) 63 :: row kSec 66 (.slice A hl c) hs :: ps) from hs1.front 2)
  have k0 := (drv_cells hs1).1
  clear hs1 h hp hk hr hc hhl hst
  go_enter Try.func15, Try.ntmps15
  go_wp2_with fail
  clear k0
  go_loopw [1, 14] (fun kp ix wr => ∃ (i : Nat) (A1 : Option Addr) (n1 c1 : Nat) (l1 : List Int) (hs' : List (List Int)) (ts' : List (List (List Int))) (m' : Int → Option Value), kp = .slice A1 n1 c1 ∧ ix = .int .i64 (i : Int) ∧ i ≤ hl ∧ Aside0 (n1 ≤ c1 ∧ KC w0 ps A1 n1 l1 ∧ ∀ x ∈ l1, -9223372036854775808 ≤ x ∧ x ≤ 9223372036854775807) ∧ Aside0 (CrashMid hs ts l i hs' ts' l1) ∧ Aside0 (St w0 wr (mpo b (cntT ts') 66 m' (look ts') none none :: blk g (dCells A hl c b off fuse steps) 63 :: row kSec 66 (.slice A hl c) hs' :: ps))) (fun _ ix _ => hl - (intOf ix).toNat)
  case atStart => exact ⟨0, A0, n0, c0, l, hs, ts, m, rfl, rfl, Nat.zero_le _, ⟨HC0.out, HK.out, HR.out⟩, HM0, HS1⟩
  case round =>
    clear HS1 HM0 HK HR HC0
    obtain ⟨i, A1, n1, c1, l1, hs', ts', m', rfl, rfl, hi, HK, HM, HS⟩ := hrel
    have HI := Aside0.mk hi
    clear hi
    by_cases hlt : i < hl
    · have h1 : decide ((i : Int) < (hl : Int)) = true := decide_eq_true (by omega)
      have h2 : (i : Int) < (hl : Int) := by omega
      have HLT := Aside0.mk hlt
      have hz1 := fun W : World => (show (zeroValue 60).run Try.prog W = .ok nilS W from by kernel_rfl)
      have k1 := (drv_cells (HS.out.front 1)).2.1
      have e1 := Aside0.mk (show wrap64 ((i : Int) + 1) = ((i + 1 : Nat) : Int) from by have := HLE.out; unfold wrap64; omega)
      have HME := Aside0.mk (show ∀ y : Int, y = ((i + 1 : Nat) : Int) → hl - (intOf (.int .i64 y)).toNat < hl - (intOf (.int .i64 (i : Int))).toNat from fun y hy => by subst hy; simp only [intOf, Int.toNat_natCast]; omega)
      obtain ⟨v, hv, hd, hs3⟩ := St.map_take HS.out (i : Int)
      obtain ⟨A2, c2, hv2⟩ := (hs3.front 1).row_slice
      subst hv2
      obtain ⟨t, ht⟩ : ∃ t, look ts' (i : Int) = t := ⟨_, rfl⟩
      rw [ht] at hv hd hs3
      have HT := Aside0.mk (show ts'.getD i [] = t from by rw [← look_nat]; exact ht)
      obtain ⟨n2, hn2⟩ : ∃ n2, t.length = n2 := ⟨_, rfl⟩
      rw [hn2] at hv hd hs3
      have HN2 := Aside0.mk hn2
      have HV := Aside0.mk hv
      have HD := Aside0.mk hd
      have HS3 := Aside0.mk hs3
      have hsome : (m' i).isSome = true ↔ t ≠ [] := by
        rcases hd with ⟨q1, q2⟩ | ⟨q1, q2⟩
        · rw [q1, q2]; simp
        · rw [q1]; simp [q2]
      clear hv hd hs3 hlt ht hn2
      by_cases ht : t = []
      · have hso : (m' i).isSome = false := by
          cases hq : (m' i).isSome with
          | false => rfl
          | true => exact absurd ht (hsome.1 hq)
        have HSO := Aside0.mk hso
        have HM2 := Aside0.mk (HM.out.stepA (by rw [HHL.out]; exact HLT.out) (HT.out.trans ht))
        clear hsome ht
        go_wp2_with ((with_reducible refine gate_dst (N := 23) rfl ?_); refine wpList_lookup_ok_at rfl (.tmp 21) (.tmp 22) rfl rfl (St.map_at HS.out) Try.underlying61 Try.underlying3 (hz1 _) (i : Int) rfl ?_; rw [HSO.out, HV.out])
        go_roundw
        case rel => exact ⟨i + 1, A1, n1, c1, l1, hs', ts', m', rfl, by rw [e1.out], HLT.out, HK, HM2, HS⟩
        case measure => exact HME.out _ e1.out
      · have hso := hsome.2 ht
        have HSO := Aside0.mk hso
        have HTN := Aside0.mk ht
        clear hsome ht hso
        go_upto_if 30 with ((with_reducible refine gate_dst (N := 23) rfl ?_); refine wpList_lookup_ok_at rfl (.tmp 21) (.tmp 22) rfl rfl (St.map_at HS.out) Try.underlying61 Try.underlying3 (hz1 _) (i : Int) rfl ?_; rw [HSO.out, HV.out])
        go_cut [1, 7] (fun kp xv wx => ∃ (A3 : Option Addr) (n3 c3 : Nat) (x : Int), kp = .slice A3 n3 c3 ∧ xv = .int .i64 x ∧ Aside0 (n3 ≤ c3 ∧ KC w0 ps A3 n3 l1.tail ∧ ∀ x ∈ l1.tail, -9223372036854775808 ≤ x ∧ x ≤ 9223372036854775807) ∧ Aside0 (l1.headD 0 = x ∧ -9223372036854775808 ≤ x ∧ x ≤ 9223372036854775807) ∧ Aside0 (St w0 wx (mpo b (cntT ts') 66 m' (look ts') none none :: blk g (dCells A hl c b off fuse steps) 63 :: row kSec 66 (.slice A hl c) hs' :: ps)))
        case first =>
          have hC := HK.out.2.1 wr [_, _, _] HS.out
          have hl1 : l1.length = n1 := hC.1
          rcases Nat.eq_zero_or_pos n1 with h0 | h0
          · subst h0
            obtain rfl : l1 = [] := List.eq_nil_of_length_eq_zero hl1
            have h3 : decide ((0 : Int) > 0) = false := rfl
            clear hC hl1
            go_wp2
            go_meet
            exact ⟨A1, 0, c1, 0, rfl, rfl, HK, ⟨rfl, by decide, by decide⟩, HS⟩
          · obtain ⟨A3, hcut, hK3⟩ := KC.cut HK.out.2.1 (St.drop_to [_, _, _] HS.out) h0 HK.out.1
            obtain ⟨ad, hA, hcell⟩ := Kd.at_int hC 0 (Int.le_refl 0) (by omega)
            obtain ⟨x, hx⟩ : ∃ x, l1.headD 0 = x := ⟨_, rfl⟩
            have hrx : rd l1 0 = x := by
              cases l1 with
              | nil => simp at hl1; omega
              | cons y l1 => exact hx
            rw [hrx] at hcell
            have hcell : wr.cell? ad = some (.int .i64 x) := by
              rw [show ad.add (0 : Int).toNat = ad from Addr.add_zero' ad] at hcell
              exact hcell
            have HX := Aside0.mk hx
            have HXR := Aside0.mk (show -9223372036854775808 ≤ x ∧ x ≤ 9223372036854775807 from by
              refine HK.out.2.2 x ?_
              cases l1 with
              | nil => simp at hl1; omega
              | cons y l1 => rw [← hx]; exact List.mem_cons_self)
            have HK3 := Aside0.mk hK3
            have HC1 := Aside0.mk HK.out.1
            subst hA
            have h3 : decide ((n1 : Int) > 0) = true := decide_eq_true (by omega)
            have h4 : (0 : Int) < (n1 : Int) := by omega
            have h5 : 0 < n1 := h0
            clear hC hl1 hrx hx hK3
            go_upto_region 7 with fail
            refine stepStartD (fun w' => w'.cell? ad = some (.int .i64 x)) 7 [0, 1, 2, 3, 4, 5, 6] [] cq_tab cq_bits (by kernel_rfl) rfl hcell (fun HT_ HW_ hHeld => ?_)
            iterate 2 (refine stepPu (v := ?_) rfl rfl (any_of HT_.out (by kernel_rfl)) (fun _ _ _ h => h) (Or.inl ⟨by rfl, ?_⟩) (a' := ?_) ?_ ?_; rotate_left; (· intro w'; go_simp; with_reducible rfl); rotate_left; (· (simp only [Act.put, List.setIfInBounds_toArray, List.set_cons_zero, List.set_cons_succ, i64_w, i32_w]; rfl)))
            (refine stepLd (v := ?_) rfl rfl (take_ofW HT_.out HW_.out (by kernel_rfl)) (fun _ _ _ h => h) (Or.inl ⟨by rfl, ?_⟩) hHeld (a' := ?_) ?_ ?_; rotate_left; (· rintro w' s0; go_simp; with_reducible rfl); rotate_left; (· (simp only [Act.put, List.setIfInBounds_toArray, List.set_cons_zero, List.set_cons_succ, i64_w, i32_w]; rfl)))
            iterate 4 (refine stepPu (v := ?_) rfl rfl (any_of HT_.out (by kernel_rfl)) (fun _ _ _ h => h) (Or.inl ⟨by rfl, ?_⟩) (a' := ?_) ?_ ?_; rotate_left; (· intro w'; go_simp; with_reducible rfl); rotate_left; (· (simp only [Act.put, List.setIfInBounds_toArray, List.set_cons_zero, List.set_cons_succ, i64_w, i32_w]; rfl)))
            refine done_ (done_of HT_.out (by kernel_rfl)) ?_
            clear HT_ HW_ hHeld
            go_wp2_with fail
            go_meet
            exact ⟨A3, n1 - 1, c1 - 1, x, rfl, rfl, ⟨Nat.sub_le_sub_right HC1.out 1, HK3.out, fun y hy => HK.out.2.2 y (List.mem_of_mem_tail hy)⟩, ⟨HX.out, HXR.out⟩, ⟨HS.out.drew⟩⟩
        case rest =>
          clear HS HS3 k1
          obtain ⟨A3, n3, c3, x, rfl, rfl, HK3, HX, HS4⟩ := hcut
          go_upto_if 37 with fail
          go_cut [7] (fun v wx => v = .int .i64 (pickY x) ∧ wx = wc)
          case first =>
            by_cases hx0 : x < 0
            · have h3 : decide (x < 0) = true := decide_eq_true hx0
              have e2 := Aside0.mk (negw HX.out.2.1 hx0)
              go_wp2
              go_meet
              exact ⟨by rw [e2.out], rfl⟩
            · have h3 : decide (x < 0) = false := decide_eq_false hx0
              have e2 := Aside0.mk (show pickY x = x from by unfold pickY; rw [if_neg hx0])
              go_wp2
              go_meet
              exact ⟨by rw [e2.out], rfl⟩
          case rest =>
            obtain ⟨rfl, rfl⟩ := hcut
            obtain ⟨y, hy⟩ : ∃ y, pickY x = y := ⟨_, rfl⟩
            rw [hy]
            obtain ⟨q1, q2⟩ := pickI_lt x n2 HX.out.2.1
            obtain ⟨i2, hi2⟩ : ∃ i2, pickI x n2 = i2 := ⟨_, rfl⟩
            rw [hi2] at q1 q2
            rw [hy] at q2
            have HI2 := Aside0.mk hi2
            have HQ1 := Aside0.mk q1
            have hb2 : n2 < 1000000 := by
              have h1 := HBD.out i
              rw [← HM.out.tget (by rw [HHL.out]; exact HLT.out), HT.out, HN2.out] at h1
              exact h1
            have e3 : wrap64 ((n2 : Int) + 1) = (n2 : Int) + 1 := by unfold wrap64; omega
            have e4 : y.tmod ((n2 : Int) + 1) = (i2 : Int) := q2.symm
            have e5 : ((n2 : Int) + 1 == 0) = false := by simp; omega
            have e6 : ¬ ((n2 : Int) + 1 = 0) := by omega
            have HB2 := Aside0.mk hb2
            clear hy hi2 q1 q2 hb2
            obtain ⟨v', hv', hd', hs5⟩ := St.map_take HS4.out (i : Int)
            rw [HV.out] at hv'
            subst hv'
            rw [show look ts' (i : Int) = t from by rw [look_nat]; exact HT.out] at hs5
            have HS5 := Aside0.mk hs5
            obtain ⟨X, hX⟩ : ∃ X, (hs'.getD i [] :: t).getD i2 [] = X := ⟨_, rfl⟩
            have HXX := Aside0.mk hX
            have HM2 := Aside0.mk (show CrashMid hs ts l (i + 1) (hs'.set i X) (ts'.set i []) l1.tail from by
              have := HM.out.stepB (by rw [HHL.out]; exact HLT.out) HT.out HTN.out
              rw [HX.out.1, HN2.out, HI2.out, hX] at this
              exact this)
            clear hd' hs5 hX
            go_upto_if 47 with fail
            clear e3 e4 e5 e6
            go_cut [] (fun wx => Aside0 (St w0 wx (mpo b (cntT ts') 66 m' (look ts') (some (i : Int)) none :: row kSec 66 (.slice A2 n2 c2) t :: blk g (dCells A hl c b off fuse steps) 63 :: row kSec 66 (.slice A hl c) (hs'.set i X) :: ps)))
            case first =>
              rcases Nat.eq_zero_or_pos i2 with h0 | h0
              · subst h0
                have h3 : decide ((0 : Nat) < 0) = false := rfl
                have HEQ := Aside0.mk (show hs'.set i X = hs' from by
                  have h7 : hs'.getD i [] = X := HXX.out
                  have h8 : i < hs'.length := by rw [HM.out.hlen, HHL.out]; exact HLT.out
                  apply List.ext_getElem?
                  intro j
                  by_cases hj : i = j
                  · subst hj
                    rw [List.getElem?_set_self h8, ← h7, List.getD_eq_getElem?_getD, List.getElem?_eq_getElem h8]
                    rfl
                  · rw [List.getElem?_set_ne hj])
                go_wp2
                go_meet
                rw [HEQ.out]
                exact HS5
              · obtain ⟨j2, hj2⟩ : ∃ j2, j2 + 1 = i2 := ⟨i2 - 1, by omega⟩
                have hjn : j2 < n2 := by have := HQ1.out; omega
                obtain ⟨g2, hA2, hr2, _, hx1, _⟩ := St.row_sec (HS5.out.drew.front 1) j2 hjn
                subst hA2
                obtain ⟨x1, hxe⟩ : ∃ x1, t.getD j2 [] = x1 := ⟨_, rfl⟩
                rw [hxe] at hr2 hx1
                have HX1 := Aside0.mk hx1
                have HXE := Aside0.mk (show X = x1 from by
                  rw [← HXX.out, ← hj2, ← hxe]
                  rfl)
                obtain ⟨gA, hA, _, hth, _, hset⟩ := St.row_sec (HS5.out.drew.front 3) i HLT.out
                subst hA
                have HTHR := Aside0.mk hth
                have HSET := Aside0.mk (hset x1 hx1)
                have HRG := Aside0.mk hr2
                have HK0 := Aside0.mk (drv_cells (HS5.out.drew.front 2)).1
                have h3 : decide (0 < i2) = true := decide_eq_true h0
                have h5 : (i : Int) < (hl : Int) := h2
                have h5b : i < hl := HLT.out
                have e2 : wrap64 ((i2 : Int) - 1) = (j2 : Int) := by have := HQ1.out; have := HB2.out; unfold wrap64; omega
                have h8 : (j2 : Int) < (n2 : Int) := by omega
                clear hr2 hx1 hxe hth hset hj2
                go_upto_region 12 with fail
                refine stepStartD (fun w' => w'.cell? ⟨g, 0, none⟩ = some (.slice (some ⟨gA, 0, none⟩) hl c) ∧ w'.rangeAt g2 (j2 * 256) (encB x1)) 12 [0, 1, 2, 3, 4, 5, 6, 7, 8, 9, 10, 11] [11] cr_tab cr_bits (by kernel_rfl) rfl ⟨HK0.out, HRG.out⟩ (fun HT_ HW_ hHeld => ?_)
                iterate 3 (refine stepPu (v := ?_) rfl rfl (any_of HT_.out (by kernel_rfl)) (fun _ _ _ h => h) (Or.inl ⟨by rfl, ?_⟩) (a' := ?_) ?_ ?_; rotate_left; (· intro w'; go_simp; with_reducible rfl); rotate_left; (· (simp only [Act.put, List.setIfInBounds_toArray, List.set_cons_zero, List.set_cons_succ, i64_w, i32_w]; rfl)))
                (refine stepLd (v := ?_) rfl rfl (take_ofW HT_.out HW_.out (by kernel_rfl)) (fun _ _ _ h => h) (Or.inl ⟨by rfl, ?_⟩) hHeld (a' := ?_) ?_ ?_; rotate_left; (· rintro w' ⟨s0, -⟩; go_simp; with_reducible rfl); rotate_left; (· (simp only [Act.put, List.setIfInBounds_toArray, List.set_cons_zero, List.set_cons_succ, i64_w, i32_w]; rfl)))
                iterate 5 (refine stepPu (v := ?_) rfl rfl (any_of HT_.out (by kernel_rfl)) (fun _ _ _ h => h) (Or.inl ⟨by rfl, ?_⟩) (a' := ?_) ?_ ?_; rotate_left; (· intro w'; go_simp; with_reducible rfl); rotate_left; (· (simp only [Act.put, List.setIfInBounds_toArray, List.set_cons_zero, List.set_cons_succ, i64_w, i32_w]; rfl)))
                refine stepLd rfl rfl (take_ofW HT_.out HW_.out (by kernel_rfl)) (fun _ _ _ h => h) (yieldsIf_load_mid (by rfl) 66 (.tmp 56) rfl g2 (j2 * 256) rfl (encB x1) _ (fun w' hS => hS.2) Try.underlying66 rfl (by rw [encB_len, HX1.out.1]; kernel_rfl)) hHeld (a' := ?_) ?_ ?_
                rotate_left
                · simp only [Act.put, List.setIfInBounds_toArray, List.set_cons_zero, List.set_cons_succ, i64_w, i32_w]; rfl
                (refine stepPu (v := ?_) rfl rfl (any_of HT_.out (by kernel_rfl)) (fun _ _ _ h => h) (Or.inl ⟨by rfl, ?_⟩) (a' := ?_) ?_ ?_; rotate_left; (· intro w'; go_simp; with_reducible rfl); rotate_left; (· (simp only [Act.put, List.setIfInBounds_toArray, List.set_cons_zero, List.set_cons_succ, i64_w, i32_w]; rfl)))
                refine stepLast rfl rfl (one_of HT_.out (by kernel_rfl)) (by decide) (fun K hK => ?_)
                refine step_store_mid (by rfl) 66 (.tmp 58) (.tmp 57) rfl gA (i * 256) (encB x1).toArray rfl rfl (by rw [List.size_toArray, encB_len, HX1.out.1]; exact HTHR.out) (by rw [List.size_toArray, encB_len, HX1.out.1]; kernel_rfl) (all_oneCell_toArray encB_one) ?_
                refine hK.out _ _ ?_
                clear hK K
                refine done_ (done_of HT_.out (by kernel_rfl)) ?_
                clear HT_ HW_ hHeld
                simp only [Act.put]
                go_wp2_with fail
                go_meet
                rw [HXE.out]
                exact ⟨St.back 3 HSET.out⟩
            case rest =>
              clear HS4 HS5 h1 h2
              have HS6 := hcut
              clear hcut
              have k1 := (drv_cells (HS6.out.front 2)).2.1
              go_wp2_with ((with_reducible refine gate_builtin (b := .delete) (xs := #[.tmp 62, .tmp 63]) rfl ?_); refine wpList_delete_at rfl (.tmp 62) (.tmp 63) rfl rfl (St.map_at HS6.out) Try.underlying61 Try.underlying3 (i : Int) rfl ?_; intro ob hM; have HM6 := Aside0.mk hM; clear hM)
              have HTL := Aside0.mk (show i < ts'.length from by rw [HM.out.tlen, HHL.out]; exact HLT.out)
              have HS7 := Aside0.mk (St.map_turn (x' := none) (c' := look (ts'.set i [])) HS6.out HM6.out (fun k _ => by
                by_cases hk : k = (i : Int)
                · exact Or.inr ⟨if_pos hk, by rw [look_set HTL.out, if_pos hk]⟩
                · exact Or.inl ⟨if_neg hk, by rw [look_set HTL.out, if_neg hk], fun q => hk (by injection q)⟩))
              rw [show (if (m' i).isSome then cntT ts' - 1 else cntT ts') = cntT (ts'.set i []) from by
                have h9 := cnt_set HTL.out []
                rw [HT.out, if_neg HTN.out, if_pos rfl] at h9
                rw [HSO.out, if_pos rfl]
                omega] at HS7
              refine ⟨⟨i + 1, A3, n3, c3, l1.tail, hs'.set i X, ts'.set i [], _, rfl, by rw [e1.out], HLT.out, HK3, HM2, ⟨St.drop (St.front 1 HS7.out)⟩⟩, HME.out _ e1.out⟩
    · have h1 : decide ((i : Int) < (hl : Int)) = false := decide_eq_false (by omega)
      have h2 : ¬ (i : Int) < (hl : Int) := by omega
      have hie : i = hs.length := by have := HI.out; have := HHL.out; omega
      have HF := Aside0.mk (CrashMid.stop (hie ▸ HM.out))
      have HLN := Aside0.mk (show hs'.length = hl from HM.out.hlen.trans HHL.out)
      have HB := HS.out.front 1
      have f2 : wr.frozen? ⟨g, 2, none⟩ = false := blk_frozen HB.blk_is 2
      have f3 : wr.frozen? ⟨g, 3, none⟩ = false := blk_frozen HB.blk_is 3
      obtain ⟨k0, k1, k2, k3, k4⟩ := drv_cells HB
      have HE := Aside0.mk (show St w0 _ (blk g (dCells A hl c b false (-1) steps) _ :: _) from (HB.blk_set 2 (.bool false)).blk_set 3 (.int .i64 (-1)))
      clear HB k0 k1 k4 hie
      go_wp2
      go_end0
      refine ⟨rfl, drv_in HP.out (p := ⟨A, c, b, m'⟩) ?_⟩
      show St w0 _ ([blk g (dCells A (crashL hs ts l).length c b false (-1) steps) _, row kSec _ (.slice A (crashL hs ts l).length c) (crashL hs ts l), mpo b (cntT (ts.map (fun _ => []))) _ m' (look (ts.map (fun _ => []))) none none] ++ ps)
      rw [← HF.out.1, ← HF.out.2, HLN.out]
      exact St.cons_swap HE.out
end
end Go.Proofs.Ytoloibjdiojmlaa.P
