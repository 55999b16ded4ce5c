/- PipeOrder's walk. -/
import Derived.Test.YtpcgjcipdnacoaaPipe2
namespace Go.Proofs.Ytpcgjcipdnacoaa.P
open Go.RowKit Go.Proofs.YtpcgjcipdnacoaaW.PrintWords Go.Proofs.YtpcgjcipdnacoaaW.PrintLast Go.Proofs.YtpcgjcipdnacoaaW.PrintMore Go.Proofs.Ytpcgjcipdnacoaa.Sep
set_option linter.unusedVariables false
attribute [local go_sem] max2_int min2_int max_two min_two max_three min_three max_four min_four
/-- A number of 1 to 70 that is drawn from any one. -/
theorem part_ (a : Int) : ∃ (x : Int) (z y p : Nat), Int.tmod a 70 = x ∧ wrap64 (x + 70) = (z : Int) ∧ Int.tmod (z : Int) 70 = (y : Int) ∧ wrap64 (1 + (y : Int)) = (p : Int) ∧ 1 ≤ p ∧ p ≤ 70 := by
  have h1 := Int.tmod_lt_of_pos a (show (0 : Int) < 70 by decide)
  have h2 := Int.tmod_lt_of_pos (-a) (show (0 : Int) < 70 by decide)
  rw [Int.neg_tmod] at h2
  obtain ⟨x, hx⟩ : ∃ x, x = Int.tmod a 70 := ⟨_, rfl⟩
  rw [← hx] at h1 h2
  refine ⟨x, (x + 70).toNat, (x + 70).toNat % 70, 1 + (x + 70).toNat % 70, hx.symm, ?_, ?_, ?_, by omega, by omega⟩
  · unfold wrap64; omega
  · rw [show (70 : Int) = ((70 : Nat) : Int) from rfl, ← Int.ofNat_tmod]
  · unfold wrap64; omega
theorem sub_small (a b c : Nat) (h : c = a - b) (hb : b ≤ a) (ha : a ≤ 500) : wrap64 ((a : Int) - (b : Int)) = (c : Int) := by unfold wrap64; omega
theorem add_small (a b c : Nat) (h : c = a + b) (ha : c ≤ 1000) : wrap64 ((a : Int) + (b : Int)) = (c : Int) := by unfold wrap64; omega
theorem inc_small (j : Nat) (h : j < 1200) : wrap64 ((j : Int) + 1) = ((j + 1 : Nat) : Int) := by unfold wrap64; omega
theorem o_neg (k : Nat) : decide ((k : Int) < 0) = false ∧ ¬ ((k : Int) < 0) := ⟨decide_eq_false (by omega), by omega⟩
theorem o_room (N sn L k r : Nat) (h1 : sn + L ≤ N) (h2 : k ≤ L) (h3 : r = N - sn) : decide ((k : Int) > (r : Int)) = false ∧ ¬ ((r : Int) < (k : Int)) := ⟨decide_eq_false (by omega), by omega⟩
theorem o_min (p m q : Nat) (h : q = min p m) : decide ((q : Int) > (p : Int)) = false ∧ ¬ ((p : Int) < (q : Int)) := ⟨decide_eq_false (by omega), by omega⟩
theorem o_taken {α : Type} (gt Q l M : List α) (sn L k N : Nat) (hN : l.length = N) (h : gt ++ Q = l.take sn) (hm : l.take sn ++ M = l.take (sn + L)) (h1 : sn + L ≤ N) (h2 : k ≤ L) : gt ++ (Q ++ M.take k) = l.take (sn + k) := by
  rw [← List.append_assoc, h]
  have := congrArg (List.take (sn + k)) hm
  rw [List.take_take, show min (sn + k) (sn + L) = sn + k from by omega, List.take_append, List.length_take, hN, List.take_take] at this
  rw [← this, show sn + k - min sn N = k from by omega, show min (sn + k) sn = sn from by omega]
theorem o_num (G n k sn L N s : Nat) (h : G + (n + k) = min (sn + k) N) (h1 : sn + L ≤ N) (h2 : k ≤ L) : G + (n + k) = sn + k ∧ sn + k ≤ N := by omega
theorem o_pro (G n k sn L N j q2 p2 : Nat) (h1 : G + (n + k) = sn + k ∧ sn + k ≤ N) (h2 : k = min L (64 - n)) (h3 : sn < N → 1 ≤ L) (h4 : min j N ≤ G) (h5 : q2 = min p2 (n + k)) (h6 : 1 ≤ p2) : min (j + 1) N ≤ G + q2 := by
  by_cases h7 : sn < N
  · have h8 := h3 h7
    omega
  · omega
theorem o_minle (L m k : Nat) (h : k = min L m) : k ≤ L := by omega
theorem o_s2 (sn k N : Nat) (h : sn + k ≤ N) (hN : N ≤ 500) : sn + k ≤ 1000 := by omega
theorem o_le (sn L k N : Nat) (h1 : sn + L ≤ N) (h2 : k ≤ L) : sn + k ≤ N := by omega
theorem o_meas (j : Nat) (h : j < 1200) (z : Int) (hz : z = ((j + 1 : Nat) : Int)) : 1200 - (intOf (.int .i64 z)).toNat < 1200 - (intOf (.int .i64 (j : Int))).toNat := by
  subst hz
  simp only [intOf, Int.toNat_natCast]
  omega
theorem o_out (G n k sn N s2 : Nat) (h : G + (n + k) = sn + k ∧ sn + k ≤ N) (h2 : s2 = sn + k) : s2 ≤ N := by omega
theorem o_gt (j N G q2 p2 n k m : Nat) (h : min (j + 1) N ≤ G + q2) (h2 : q2 = min p2 (n + k)) (hm : m = n + k) : min (j + 1) N ≤ G + min q2 m := by omega
theorem o_end (G n sn N j : Nat) (h : G + n = min sn N) (h1 : min j N ≤ G) (h2 : N ≤ 500) (h3 : ¬ j < 1200) (h4 : sn ≤ N) : n = 0 ∧ sn = N ∧ G = N := by omega
theorem o_not (j : Nat) (h : ¬ j < 1200) : decide ((j : Int) < 1200) = false ∧ ¬ ((j : Int) < 1200) := ⟨decide_eq_false (by omega), by omega⟩
theorem o_ne (a g b : Nat) (h : a ≤ g) (h2 : a = b + 1) : g ≠ b := by omega
def cambiumlaw22_PipeOrder.f (_l0 : List Int) (_a1 _a2 : Int) : Option Bool := some true
set_option maxHeartbeats 4000000 in
set_option maxRecDepth 100000 in
theorem cambiumlaw22_PipeOrder.calls (A0 : Option Addr) (c0 : Nat) (l0 : List Int) (a1 : Int) (a2 : Int) (r : Bool) (w : World) (hr0 : Kd.C (Kd.int .u8) w A0 l0.length l0) (hc0 : l0.length ≤ c0) (hr_ : Aside0 (r = true)) (h : cambiumlaw22_PipeOrder.f l0 a1 a2 = some r) :
    Calls Try.prog 3 #[.slice A0 l0.length c0, .int .i64 a1, .int .i64 a2] w fun e w' => e = .returned (.bool r) ∧ Below w.heap.size w w' := by
  obtain rfl := hr_.out
  clear hr_ h
  obtain ⟨N0, hN0⟩ : ∃ N0, l0.length = N0 := ⟨_, rfl⟩
  have HN0 := Aside0.mk hN0
  rw [hN0] at hr0 hc0 ⊢
  clear hN0
  have HR0 := Aside0.mk hr0
  have HC0 := Aside0.mk hc0
  clear hr0 hc0
  go_enter Try.func3, Try.ntmps3
  go_wp2_with fail
  refine (cambiumlaw22_shown.calls true _ rfl).mono ?_
  rintro e w1 ⟨rfl, hb⟩
  have HB1 := Aside0.mk hb
  have HR1 := Aside0.mk (Kd.C_below HR0.out hb)
  clear hb
  go_wp2_with fail
  refine (pipe_New.calls _).mono ?_
  rintro e w2 ⟨rfl, hw2⟩
  have HI2 := Aside0.mk (show IsPipe w2 w1.heap.size (List.replicate 64 0) 0 0 from by subst hw2; exact ⟨heap_alloc_new _ _, by simp, by omega, by omega⟩)
  have HB2 := Aside0.mk (show Below w.heap.size w w2 from by subst hw2; exact below_alloc HB1.out _)
  have HS2 := Aside0.mk (show w2.heap.size = w1.heap.size + 1 from by subst hw2; simp)
  have HG := Aside0.mk HB1.out.size
  have HB1z := Aside0.mk (show w.heap.size ≤ w2.heap.size from by have := HB1.out.size; have := HS2.out; omega)
  clear hw2 HB1 HR1
  generalize w1.heap.size = g at *
  obtain ⟨i0, hi0, _, hs0, _⟩ := info_parts info5
  -- at most 500 bytes
  obtain ⟨l, N, hlN, hN5, hNc, hCl, hcase⟩ : ∃ (l : List Int) (N : Nat), l.length = N ∧ N ≤ 500 ∧ N ≤ c0 ∧ Kd.C (Kd.int .u8) w A0 N l ∧ ((decide ((N0 : Int) > 500) = true ∧ (500 : Int) < (N0 : Int) ∧ N = 500 ∧ N ≤ N0) ∨ (decide ((N0 : Int) > 500) = false ∧ (N0 : Int) ≤ 500 ∧ N = N0 ∧ N ≤ N0)) := by
    have hc := HC0.out
    have hn := HN0.out
    by_cases h : (N0 : Int) > 500
    · have h5 := Own.C_take (hn.symm ▸ HR0.out : Kd.C (Kd.int .u8) w A0 l0.length l0) 500 (by omega)
      rw [List.length_take, show min 500 l0.length = 500 from by omega] at h5
      exact ⟨l0.take 500, 500, by rw [List.length_take]; omega, by omega, by omega, h5, Or.inl ⟨decide_eq_true h, h, rfl, by omega⟩⟩
    · exact ⟨l0, N0, hn, by omega, hc, HR0.out, Or.inr ⟨decide_eq_false h, by omega, rfl, by omega⟩⟩
  have HLN := Aside0.mk hlN
  have HN5 := Aside0.mk hN5
  have HNC := Aside0.mk hNc
  have HCL := Aside0.mk hCl
  have hcc := HC0.out
  clear hlN hN5 hCl
  obtain ⟨x1, z1, y1, p1, e11, e12, e13, e14, hp1, hp1'⟩ := part_ a1
  obtain ⟨x2, z2, y2, p2, e21, e22, e23, e24, hp2, hp2'⟩ := part_ a2
  have HP1 := Aside0.mk (And.intro hp1 hp1')
  have HP2 := Aside0.mk (And.intro hp2 hp2')
  clear hp1 hp1' hp2 hp2'
  have hcut : N = 500 → N ≤ N0 → ∀ W : World, (Instr.slice 22 (.slice A0 N0 c0) none (some (.int .i64 500)) none).run Try.prog W = .ok (.slice A0 N c0) W := fun h1 h2 => by
    have := cut_to (P := Try.prog) 22 5 .i64 Try.underlying22 hi0 A0 N0 c0 500 (by omega) (by omega) hcc
    rw [h1]
    exact this
  rcases hcase with ⟨hd, hd2, hk, hkn⟩ | ⟨hd, hd2, hk, hkn⟩
  have hcut1 := hcut hk hkn
  clear hcut hk hkn
  rotate_left
  subst hk
  have hd3 : ¬ (500 : Int) < (N : Int) := by omega
  clear hcut
  rotate_left
  all_goals
    go_wp2_with fail
    rw [e14, e24]
    clear hd hd2 e11 e12 e13 e14 e21 e22 e23 e24
    have HO0 := Aside0.mk (Kd.R_of_own (enc := Value.int .u8) (h1 := fun _ => rfl) (ok := fun k => w2.heap.size ≤ k) (xs := ([] : List Int)) (World.ownsRow_made (e := 5) (size := 1) (base := w2.heap.size) w2 #[] 0 (Nat.le_refl _) (by decide) rfl) (fun k hk => by have hk2 : w2.heap.size = k := (by simpa [Value.ownBlock] using hk); omega))
    go_loopw [11, 12, 13, 14, 15] (fun v s i c d wr => ∃ (sn j : Nat) (R : List Int) (f n : Nat) (gt : List Int), j ≤ 1200 ∧ s = .int .i64 sn ∧ i = .int .i64 j ∧ sn ≤ N ∧ Aside0 (Kd.R (Kd.int .u8) 5 wr w2.heap.size (fun k => w2.heap.size ≤ k) v gt) ∧ Aside0 (IsPipe wr g R f n) ∧ Aside0 (gt ++ que R f n = l.take sn) ∧ Aside0 (min j N ≤ gt.length) ∧ Aside0 (Below w.heap.size w wr) ∧ Aside0 (w2.heap.size ≤ wr.heap.size)) (fun _ _ i _ _ _ => 1200 - (intOf i).toNat)
    case atStart => exact ⟨0, 0, List.replicate 64 0, 0, 0, [], by omega, rfl, rfl, by omega, HO0, ⟨HI2.out.alloc _⟩, ⟨by simp [que]⟩, ⟨by simp⟩, ⟨below_alloc HB2.out _⟩, ⟨by simp⟩⟩
    case round =>
      clear HO0
      obtain ⟨sn, j, R, f, n, gt, hj, rfl, rfl, hsn, HO, HI, HQ, HJ, HB, HZ⟩ := hrel
      by_cases hlt : j < 1200
      · obtain ⟨q, hq⟩ : ∃ q, q = sn + p1 := ⟨_, rfl⟩
        have hp1 := HP1.out
        have hn5 := HN5.out
        have e5 : wrap64 ((sn : Int) + (p1 : Int)) = (q : Int) := add_small sn p1 q hq (by omega)
        obtain ⟨hi, hhi⟩ : ∃ hi, hi = min N q := ⟨_, rfl⟩
        have HSN := Aside0.mk hsn
        have HQQ := Aside0.mk hq
        have HHI := Aside0.mk hhi
        have h1 : sn ≤ hi := by omega
        have h2 : hi ≤ N := by omega
        have h3 : hi ≤ c0 := by omega
        have hnc := HNC.out
        have hmid0 := cut_mid (P := Try.prog) 22 5 .i64 .i64 Try.underlying22 hi0 1 hs0 A0 N c0 sn hi (by omega) (by omega) (by omega) hnc
        have hrm := Kd.C_mid (lo := sn) (hi := hi) (c := c0) (show Kd.C (Kd.int .u8) w A0 l.length l from by rw [HLN.out]; exact HCL.out) (by omega) (by rw [HLN.out]; omega) (by rw [HLN.out]; omega)
        rw [Int.toNat_natCast, Int.toNat_natCast] at hmid0
        obtain ⟨A4, hA4⟩ : ∃ A4, A4 = (if c0 = sn then A0 else Option.map (fun x => x.add (sn * (Kd.int IntKind.u8).sz)) A0) := ⟨_, rfl⟩
        rw [← hA4] at hrm
        have hmid : ∀ W : World, (Instr.slice 22 (.slice A0 N c0) (some (.int .i64 sn)) (some (.int .i64 hi)) none).run Try.prog W = .ok (.slice A4 (hi - sn) (c0 - sn)) W := fun W => by rw [hA4]; exact hmid0 W
        obtain ⟨L, hL⟩ : ∃ L, L = hi - sn := ⟨_, rfl⟩
        obtain ⟨c4, hc4⟩ : ∃ c4, c4 = c0 - sn := ⟨_, rfl⟩
        rw [← hL, ← hc4] at hmid
        obtain ⟨M, hM⟩ : ∃ M, M = (l.take hi).drop sn := ⟨_, rfl⟩
        rw [← hM] at hrm
        have hML : M.length = L := by rw [hM, List.length_drop, List.length_take, HLN.out]; omega
        have HMM := Aside0.mk (show l.take sn ++ M = l.take (sn + L) from by
          rw [hM, show sn + L = hi from by omega]
          conv => rhs; rw [← List.take_append_drop sn (l.take hi)]
          rw [List.take_take, show min sn hi = sn from by omega])
        have HML := Aside0.mk hML
        have HL1 := Aside0.mk (show sn + L ≤ N from by omega)
        have HL2 := Aside0.mk (show sn < N → 1 ≤ L from fun h => by omega)
        have HC4 := Aside0.mk (show M.length ≤ c4 from by omega)
        have HRM := Aside0.mk hrm
        have hmv : ((N : Int) ≤ (q : Int) ∧ (¬ (q : Int) < (N : Int)) ∧ decide ((N : Int) ≤ (q : Int)) = true ∧ decide ((q : Int) < (N : Int)) = false ∧ N = hi) ∨ ((¬ (N : Int) ≤ (q : Int)) ∧ ((q : Int) < (N : Int)) ∧ decide ((N : Int) ≤ (q : Int)) = false ∧ decide ((q : Int) < (N : Int)) = true ∧ q = hi) := by
          by_cases h : (N : Int) ≤ (q : Int)
          · exact Or.inl ⟨h, by omega, decide_eq_true h, decide_eq_false (by omega), by omega⟩
          · exact Or.inr ⟨h, by omega, decide_eq_false h, decide_eq_true (by omega), by omega⟩
        have HK1 := Aside0.mk (pipe_Write.calls g R f n A4 c4 M wr HI.out (Kd.C_foot_came (Kd.heap_int _) HRM.out HB.out HG.out) HC4.out)
        have HJL := Aside0.mk hlt
        have hd12 : decide ((j : Int) < 1200) = true := decide_eq_true (by omega)
        have hj12 : (j : Int) < 1200 := by omega
        clear hmid0 hA4 hL hc4 hM hML hrm hq hhi h1 h2 h3 hnc hn5 hp1 hsn hcc hj hlt
        rcases hmv with ⟨g1, g2, g3, g4, g5⟩ | ⟨g1, g2, g3, g4, g5⟩ <;> subst g5
        all_goals
          go_wp2_with fail
          have hk1 := HK1.out
          rw [HML.out] at hk1
          obtain ⟨k, hk⟩ : ∃ k, k = min L (64 - n) := ⟨_, rfl⟩
          rw [← hk] at hk1
          refine hk1.mono ?_
          clear hk1 HK1
          rintro e w4 ⟨R4, rfl, hi4, hq4, ho4⟩
          have hkL : k ≤ L := o_minle L _ k hk
          have HI4 := Aside0.mk hi4
          have HQ4 := Aside0.mk (show gt ++ que R4 f (n + k) = l.take (sn + k) from by
            rw [hq4]
            exact o_taken gt _ l M sn L k N HLN.out HQ.out HMM.out HL1.out hkL)
          have HB4 := Aside0.mk (ho4.toBelow HB.out HG.out)
          have HO4 := Aside0.mk (Kd.R_keep HO.out ho4.keep (fun k hk e => by have := HS2.out; rw [this, e] at hk; exact Nat.not_succ_le_self _ hk))
          have HZ4 := Aside0.mk (Nat.le_trans HZ.out ho4.keep.1)
          have HKL := Aside0.mk hk
          obtain ⟨s2, hs2⟩ : ∃ s2, s2 = sn + k := ⟨_, rfl⟩
          obtain ⟨r2, hr2⟩ : ∃ r2, r2 = N - sn := ⟨_, rfl⟩
          have HS22 := Aside0.mk hs2
          obtain ⟨u1, u5⟩ := o_neg k
          have u2 : wrap64 ((N : Int) - (sn : Int)) = (r2 : Int) := sub_small N sn r2 hr2 HSN.out HN5.out
          obtain ⟨u3, u6⟩ := o_room N sn L k r2 HL1.out hkL hr2
          have u4 : wrap64 ((sn : Int) + (k : Int)) = (s2 : Int) := add_small sn k s2 hs2 (hs2 ▸ o_s2 sn k N (o_le sn L k N HL1.out hkL) HN5.out)
          have HKL2 := Aside0.mk hkL
          clear hd12 hj12 hi4 hq4 ho4 hkL hk hs2 hr2 HI HQ HB HO HZ g1 g2 g3 g4 hmid e5
          go_wp2_with fail
          refine (pipe_Read.calls g R4 f (n + k) (p2 : Int) w4 HI4.out).mono ?_
          rintro e w5 ⟨v5, f5, rfl, ho5, hi5, hq5, hw5⟩
          obtain ⟨q2, hq2⟩ : ∃ q2, q2 = min p2 (n + k) := ⟨_, rfl⟩
          rw [Int.toNat_natCast, ← hq2] at ho5 hi5 hq5
          have hp2 := HP2.out
          have hlx : ((que R4 f (n + k)).take q2).length = q2 := by rw [List.length_take, que_length, hq2]; exact Nat.min_eq_left (Nat.min_le_right _ _)
          obtain ⟨A5, c5, he5⟩ := Kd.R_slice ho5
          rw [hlx] at he5
          subst he5
          obtain ⟨Ag, cg, heg⟩ := Kd.R_slice HO4.out
          obtain ⟨G, hG⟩ : ∃ G, gt.length = G := ⟨_, rfl⟩
          rw [hG] at heg
          subst heg
          have hnum := congrArg List.length HQ4.out
          rw [List.length_append, que_length, List.length_take, HLN.out, hG] at hnum
          have HNUM := Aside0.mk (o_num G n k sn L N 0 hnum HL1.out HKL2.out)
          have HPRO := Aside0.mk (o_pro G n k sn L N j q2 p2 HNUM.out HKL.out HL2.out (hG ▸ HJ.out) hq2 hp2.1)
          obtain ⟨u7, u8⟩ := o_min p2 (n + k) q2 hq2
          have u9 := inc_small j HJL.out
          have HG9 := Aside0.mk hG
          have HO5 := Aside0.mk (show Kd.C (Kd.int .u8) w5 A5 q2 ((que R4 f (n + k)).take q2) from by have h := (Kd.R_reads' ho5).2.2; rw [hlx] at h; exact h)
          have HI5 := Aside0.mk hi5
          have HQ5 := Aside0.mk hq5
          have HB5 := Aside0.mk (hw5.toBelow HB4.out HG.out)
          have HOg := Aside0.mk (Kd.R_keep HO4.out hw5.keep (fun k hk e => by have := HS2.out; omega))
          have HZ5 := Aside0.mk (Nat.le_trans HZ4.out hw5.keep.1)
          have HLS := Aside0.mk (show (gt.length + q2) * 1 ≤ 140737488355328 from by have h1 := HNUM.out; have h2 := HN5.out; rw [hG]; omega)
          have HQ2 := Aside0.mk hq2
          clear ho5 hi5 hq5 hw5 hp2 hlx hG hq2 hnum HO4 HI4 HB4 HZ4
          go_wp2_with (first | ((with_reducible refine gate_builtin (b := .append) (xs := #[.tmp 75, .tmp 76]) rfl ?_); at_builtin; refine Kd.R_append_rows (Kd.int .u8) (w0 := w5) w2.heap.size rfl (.tmp 75) (.tmp 76) 22 5 (.int .u8 0) 1 rfl Try.underlying22 info5 rfl (by decide) (by decide) _ gt ((que R4 f (n + k)).take q2) _ _ _ (fun k => w2.heap.size ≤ k) (fun _ => False) rfl rfl HOg.out HO5.out (fun _ _ h => h) (fun _ h => h.elim) (fun k hk => Nat.le_trans HZ5.out hk) (Below.refl _ _) HZ5.out HLS.out ?_; intro v6 w6 ho hb hg hat; have HO6 := Aside0.mk ho; have HG6 := Aside0.mk hg; clear ho hb hg hat))
          have hgn : some g ≠ (Value.slice Ag G cg).ownBlock := fun e => o_ne _ _ _ (HOg.out.1 g e.symm) HS2.out rfl
          have hz6 : w2.heap.size ≤ w6.heap.size := Nat.le_trans HZ5.out HG6.out.size
          refine ⟨⟨s2, j + 1, R4, f5, n + k - q2, gt ++ (que R4 f (n + k)).take q2, HJL.out, rfl, by first | rw [u9] | rfl, ?_, HO6, ⟨IsPipe.grown HI5.out HG6.out hgn⟩, ⟨?_⟩, ⟨?_⟩, ⟨pw_below_grown HB5.out _ HB5.out.size HG6.out (fun k hk => ?_)⟩, ⟨hz6⟩⟩, ?_⟩
          · exact o_out G n k sn N s2 HNUM.out HS22.out
          · rw [HQ5.out, List.append_assoc, List.take_append_drop, HQ4.out, HS22.out]
          · rw [List.length_append, HG9.out, List.length_take, que_length]
            exact o_gt j N G q2 p2 n k _ HPRO.out HQ2.out rfl
          · exact Nat.le_trans HB1z.out (HOg.out.1 k hk)
          · exact o_meas j HJL.out _ (by first | exact u9 | rfl)
      · obtain ⟨h12, h13⟩ := o_not j hlt
        obtain ⟨Ag, cg, heg⟩ := Kd.R_slice HO.out
        have hq := HQ.out
        have hlen := congrArg List.length hq
        rw [List.length_append, que_length, List.length_take, HLN.out] at hlen
        obtain ⟨h14, h15, h16⟩ := o_end _ n sn N j hlen HJ.out HN5.out hlt hsn
        rw [h14, h15] at hq
        rw [← HLN.out, List.take_length, show que R f 0 = [] from rfl, List.append_nil] at hq
        subst hq
        subst h15
        rw [h16] at heg
        subst heg
        have HI0 := Aside0.mk (h14 ▸ HI.out : IsPipe wr g R f 0)
        have t1 : (convert 22 9 (.slice Ag sn cg)).run Try.prog wr = .ok (.string (strOfNums gt)) wr := Kd.C_string Try.underlying22 Try.underlying5 Try.underlying9 (show Kd.C (Kd.int .u8) wr Ag sn gt from by have h := (Kd.R_reads' HO.out).2.2; rw [h16] at h; exact h)
        have t2 : (convert 22 9 (.slice A0 sn c0)).run Try.prog wr = .ok (.string (strOfNums gt)) wr := Kd.C_string Try.underlying22 Try.underlying5 Try.underlying9 (Kd.C_below HCL.out HB.out)
        have HBE := HB
        clear h14 h16 hlen hj HO HI HQ HJ HB HZ hlt
        go_wp2_with fail
        refine (pipe_Len.calls g R f 0 wr HI0.out).mono ?_
        rintro e w9 ⟨rfl, rfl⟩
        go_wp2
        go_ret
        exact ⟨rfl, HBE.out⟩
theorem PipeOrder_law (z0A : Option Addr) (z0c : Nat) (z0l : (List Int)) (z1n : Int) (z2n : Int) (w : World) (h0 : Aside0 (z0l.length ≤ z0c ∧ Kd.C (Kd.int .u8) w z0A z0l.length z0l ∧ (z0l.length ≤ maxLen ∧ ∀ y0_ ∈ z0l, (Lit.int .u8 y0_).wf = true))) (h1 : Aside0 ((Lit.int .i64 z1n).wf = true)) (h2 : Aside0 ((Lit.int .i64 z2n).wf = true)) :
    Calls Try.prog 3 #[.slice z0A z0l.length z0c, .int .i64 z1n, .int .i64 z2n] w fun e w' => e = .returned (.bool true) ∧ Below w.heap.size w w' :=
  cambiumlaw22_PipeOrder.calls z0A z0c z0l z1n z2n true w h0.out.2.1 h0.out.1 ⟨rfl⟩ rfl
end Go.Proofs.Ytpcgjcipdnacoaa.P
