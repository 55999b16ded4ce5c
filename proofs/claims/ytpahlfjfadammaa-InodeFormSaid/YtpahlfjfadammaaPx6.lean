/- Functions and contracts, written by a program (mkprint.py, a wrapper of ours around the print); texts between GIVEN marks are ours. -/
import Derived.Test.YtpahlfjfadammaaPx0
import Derived.Test.YtpahlfjfadammaaPx1
import Derived.Test.YtpahlfjfadammaaPx2
import Derived.Test.YtpahlfjfadammaaPx3
import Derived.Test.YtpahlfjfadammaaPx5
namespace Go.Proofs.Ytpahlfjfadammaa.P
open Go.RowKit Go.Proofs.YtpahlfjfadammaaW.PrintWords Go.Proofs.YtpahlfjfadammaaW.PrintLast Go.Proofs.YtpahlfjfadammaaW.PrintMore
attribute [local go_sem] max2_int min2_int max_two min_two max_three min_three max_four min_four   -- for this text's walks alone
set_option linter.unusedVariables false
set_option linter.unusedSimpArgs false

attribute [local go_sem high] eqA38
/-! ### cambiumlaw13_InodeKeys: function 4 -/
def cambiumlaw13_InodeKeys.f (k : Nat) (a0 : Int) (a1 : Int) : Option (Bool) := (cambiumlaw13_shown.f k).bind fun t262 => (if t262 = true then ((inode_Key.f a0).bind fun bt263 => (if (bt263.1 == a0 && (bt263.2.1 == 1 && (bt263.2.2 == 0))) = true then ((inode_EntryKey.f a0 a1).bind fun bt266 => (if (bt266.1 == a0 && (bt266.2.1 == 2 && (bt266.2.2 == a1))) = true then ((inode_DataKey.f a0 a1).bind fun bt269 => (if (bt269.1 == a0 && (bt269.2.1 == 3 && (bt269.2.2 == a1))) = true then ((inode_OrphanKey.f a1).bind fun bt272 => (some (bt272.1 == 0 && (bt272.2.1 == 4 && (bt272.2.2 == a1))))) else (some false))) else (some false))) else (some false))) else (some false))
theorem cambiumlaw13_InodeKeys.mono : ∀ a0 a1 k, LeO (cambiumlaw13_InodeKeys.f k a0 a1) (cambiumlaw13_InodeKeys.f (k + 1) a0 a1) := by
  intro a0 a1 k
  unfold cambiumlaw13_InodeKeys.f
  repeat' first
      | (with_reducible exact cambiumlaw13_shown.mono _)
      | (with_reducible exact LeO.refl _)
      | (with_reducible exact LeO.none _)
      | (with_reducible refine LeO.ite ?_ ?_)
      | (with_reducible refine LeO.bind ?_ (fun _ => ?_))
      | exact cambiumlaw13_shown.mono _
      | exact LeO.none _
      | refine LeO.ite ?_ ?_
      | refine LeO.bind ?_ (fun _ => ?_)
set_option maxHeartbeats 8000000 in
set_option maxRecDepth 100000 in
theorem cambiumlaw13_InodeKeys.calls (k : Nat) (a0 : Int) (a1 : Int) (r : Bool) (w : World) (hr_ : Aside0 (r = true)) (h : cambiumlaw13_InodeKeys.f k a0 a1 = some r) :
    Calls Try.prog 4 #[.int .i64 a0, .int .i64 a1] w fun e w' => e = .returned (.bool r) ∧ Below w.heap.size w w' := by
  have hu38 := Try.underlying38
  have HB := Aside0.mk (Below.refl w.heap.size w)
  have H : ((cambiumlaw13_shown.f k).bind fun t262 => (if t262 = true then ((inode_Key.f a0).bind fun bt263 => (if (bt263.1 == a0 && (bt263.2.1 == 1 && (bt263.2.2 == 0))) = true then ((inode_EntryKey.f a0 a1).bind fun bt266 => (if (bt266.1 == a0 && (bt266.2.1 == 2 && (bt266.2.2 == a1))) = true then ((inode_DataKey.f a0 a1).bind fun bt269 => (if (bt269.1 == a0 && (bt269.2.1 == 3 && (bt269.2.2 == a1))) = true then ((inode_OrphanKey.f a1).bind fun bt272 => (some (bt272.1 == 0 && (bt272.2.1 == 4 && (bt272.2.2 == a1))))) else (some false))) else (some false))) else (some false))) else (some false))) = some r := h
  clear h
  replace H := Option.bind_eq_some_iff.mp H
  obtain ⟨t262, A30, H⟩ := H
  replace H : (if t262 = true then ((inode_Key.f a0).bind fun bt263 => (if (bt263.1 == a0 && (bt263.2.1 == 1 && (bt263.2.2 == 0))) = true then ((inode_EntryKey.f a0 a1).bind fun bt266 => (if (bt266.1 == a0 && (bt266.2.1 == 2 && (bt266.2.2 == a1))) = true then ((inode_DataKey.f a0 a1).bind fun bt269 => (if (bt269.1 == a0 && (bt269.2.1 == 3 && (bt269.2.2 == a1))) = true then ((inode_OrphanKey.f a1).bind fun bt272 => (some (bt272.1 == 0 && (bt272.2.1 == 4 && (bt272.2.2 == a1))))) else (some false))) else (some false))) else (some false))) else (some false)) = some r := H
  have A3 := Aside0.mk A30
  clear A30
  by_cases c4 : t262 = true
  · subst c4
    have H1 : ((inode_Key.f a0).bind fun bt263 => (if (bt263.1 == a0 && (bt263.2.1 == 1 && (bt263.2.2 == 0))) = true then ((inode_EntryKey.f a0 a1).bind fun bt266 => (if (bt266.1 == a0 && (bt266.2.1 == 2 && (bt266.2.2 == a1))) = true then ((inode_DataKey.f a0 a1).bind fun bt269 => (if (bt269.1 == a0 && (bt269.2.1 == 3 && (bt269.2.2 == a1))) = true then ((inode_OrphanKey.f a1).bind fun bt272 => (some (bt272.1 == 0 && (bt272.2.1 == 4 && (bt272.2.2 == a1))))) else (some false))) else (some false))) else (some false))) = some r := by rw [if_pos rfl] at H; exact H
    clear H
    have H := H1
    clear H1
    replace H := Option.bind_eq_some_iff.mp H
    obtain ⟨⟨t263, t264, t265⟩, A50, H⟩ := H
    replace H : (if (t263 == a0 && (t264 == 1 && (t265 == 0))) = true then ((inode_EntryKey.f a0 a1).bind fun bt266 => (if (bt266.1 == a0 && (bt266.2.1 == 2 && (bt266.2.2 == a1))) = true then ((inode_DataKey.f a0 a1).bind fun bt269 => (if (bt269.1 == a0 && (bt269.2.1 == 3 && (bt269.2.2 == a1))) = true then ((inode_OrphanKey.f a1).bind fun bt272 => (some (bt272.1 == 0 && (bt272.2.1 == 4 && (bt272.2.2 == a1))))) else (some false))) else (some false))) else (some false)) = some r := H
    have A5 := Aside0.mk A50
    clear A50
    by_cases c6 : (t263 == a0 && (t264 == 1 && (t265 == 0))) = true
    · rw [if_pos c6] at H
      have c6b0 : (t263 == a0 && (t264 == 1 && (t265 == 0))) = true := c6
      (try (have c6b1 : decide (t263 = a0 && (t264 == 1 && (t265 == 0))) = true := by simpa using c6))
      (try (have c6b2 : (t263 == a0 && (t264 == 1 && (t265 == 0))) = true := by simpa using c6))
      clear c6
      replace H := Option.bind_eq_some_iff.mp H
      obtain ⟨⟨t266, t267, t268⟩, A70, H⟩ := H
      replace H : (if (t266 == a0 && (t267 == 2 && (t268 == a1))) = true then ((inode_DataKey.f a0 a1).bind fun bt269 => (if (bt269.1 == a0 && (bt269.2.1 == 3 && (bt269.2.2 == a1))) = true then ((inode_OrphanKey.f a1).bind fun bt272 => (some (bt272.1 == 0 && (bt272.2.1 == 4 && (bt272.2.2 == a1))))) else (some false))) else (some false)) = some r := H
      have A7 := Aside0.mk A70
      clear A70
      by_cases c8 : (t266 == a0 && (t267 == 2 && (t268 == a1))) = true
      · rw [if_pos c8] at H
        have c8b0 : (t266 == a0 && (t267 == 2 && (t268 == a1))) = true := c8
        (try (have c8b1 : decide (t266 = a0 && (t267 == 2 && (t268 == a1))) = true := by simpa using c8))
        (try (have c8b2 : (t266 == a0 && (t267 == 2 && (t268 == a1))) = true := by simpa using c8))
        clear c8
        replace H := Option.bind_eq_some_iff.mp H
        obtain ⟨⟨t269, t270, t271⟩, A90, H⟩ := H
        replace H : (if (t269 == a0 && (t270 == 3 && (t271 == a1))) = true then ((inode_OrphanKey.f a1).bind fun bt272 => (some (bt272.1 == 0 && (bt272.2.1 == 4 && (bt272.2.2 == a1))))) else (some false)) = some r := H
        have A9 := Aside0.mk A90
        clear A90
        by_cases c10 : (t269 == a0 && (t270 == 3 && (t271 == a1))) = true
        · rw [if_pos c10] at H
          have c10b0 : (t269 == a0 && (t270 == 3 && (t271 == a1))) = true := c10
          (try (have c10b1 : decide (t269 = a0 && (t270 == 3 && (t271 == a1))) = true := by simpa using c10))
          (try (have c10b2 : (t269 == a0 && (t270 == 3 && (t271 == a1))) = true := by simpa using c10))
          clear c10
          replace H := Option.bind_eq_some_iff.mp H
          obtain ⟨⟨t272, t273, t274⟩, A110, H⟩ := H
          replace H : (some (t272 == 0 && (t273 == 4 && (t274 == a1)))) = some r := H
          have A11 := Aside0.mk A110
          clear A110
          obtain rfl := Option.some.inj H
          go_enter Try.func4, Try.ntmps4
          go_wp2_with (first | ((with_reducible refine gate_callee (f := 8) rfl ?_); refine goesL_ (some 6) rfl rfl Try.func8 (by kernel_rfl) rfl #[] rfl (by (try simp only [List.map_toArray, List.map_cons, List.map_nil]); first | done | rfl | (simp only [List.length_drop, List.length_take]; rfl)) ?_; (with_reducible refine (cambiumlaw13_shown.calls k  true _ A3.out).mono ?_); rintro e w12 ⟨rfl, hb⟩; refine ⟨_, rfl, ?_⟩; have n0_ := Aside0.mk (below_step (by repeat (first | (with_reducible first | exact HB.out | apply below_alloc | apply pw_below_drewN | apply below_drew1) | exact HB.out)) hb); clear HB; have HB := n0_; clear n0_; (try clear hb); (try clear hb2); (try clear hk); (try clear hi)) | (go_at_call 16; (with_reducible refine (inode_Key.calls a0 t263 t264 t265 _ A5.out).mono ?_); rintro e w13 ⟨rfl, hb⟩; have n0_ := Aside0.mk (below_step (by repeat (first | (with_reducible first | exact HB.out | apply below_alloc | apply pw_below_drewN | apply below_drew1) | exact HB.out)) hb); clear HB; have HB := n0_; clear n0_; (try clear hb); (try clear hb2); (try clear hk); (try clear hi)) | (go_at_call 17; (with_reducible refine (inode_EntryKey.calls a0 a1 t266 t267 t268 _ A7.out).mono ?_); rintro e w14 ⟨rfl, hb⟩; have n0_ := Aside0.mk (below_step (by repeat (first | (with_reducible first | exact HB.out | apply below_alloc | apply pw_below_drewN | apply below_drew1) | exact HB.out)) hb); clear HB; have HB := n0_; clear n0_; (try clear hb); (try clear hb2); (try clear hk); (try clear hi)) | (go_at_call 18; (with_reducible refine (inode_DataKey.calls a0 a1 t269 t270 t271 _ A9.out).mono ?_); rintro e w15 ⟨rfl, hb⟩; have n0_ := Aside0.mk (below_step (by repeat (first | (with_reducible first | exact HB.out | apply below_alloc | apply pw_below_drewN | apply below_drew1) | exact HB.out)) hb); clear HB; have HB := n0_; clear n0_; (try clear hb); (try clear hb2); (try clear hk); (try clear hi)) | (go_at_call 19; (with_reducible refine (inode_OrphanKey.calls a1 t272 t273 t274 _ A11.out).mono ?_); rintro e w16 ⟨rfl, hb⟩; have n0_ := Aside0.mk (below_step (by repeat (first | (with_reducible first | exact HB.out | apply below_alloc | apply pw_below_drewN | apply below_drew1) | exact HB.out)) hb); clear HB; have HB := n0_; clear n0_; (try clear hb); (try clear hb2); (try clear hk); (try clear hi)))
          go_ret
          exact ⟨by first | rfl | (simp [errW_none, errW_some] <;> rfl) | (simp [*, errW_none, errW_some] <;> rfl), by repeat (first | (with_reducible first | exact HB.out | apply below_alloc | apply pw_below_drewN | apply below_drew1) | exact HB.out)⟩
        · rw [if_neg c10] at H
          have c10b0 : (t269 == a0 && (t270 == 3 && (t271 == a1))) = false := by simpa using c10
          (try (have c10b1 : decide (t269 = a0 && (t270 == 3 && (t271 == a1))) = false := by simpa using c10))
          (try (have c10b2 : (t269 == a0 && (t270 == 3 && (t271 == a1))) = false := by simpa using c10))
          (try (have c10b3 : ¬ (t269 = a0 && (t270 == 3 && (t271 == a1))) := by simpa using c10))
          clear c10
          exact absurd (Option.some.inj H) (by rw [hr_.out]; decide)
      · rw [if_neg c8] at H
        have c8b0 : (t266 == a0 && (t267 == 2 && (t268 == a1))) = false := by simpa using c8
        (try (have c8b1 : decide (t266 = a0 && (t267 == 2 && (t268 == a1))) = false := by simpa using c8))
        (try (have c8b2 : (t266 == a0 && (t267 == 2 && (t268 == a1))) = false := by simpa using c8))
        (try (have c8b3 : ¬ (t266 = a0 && (t267 == 2 && (t268 == a1))) := by simpa using c8))
        clear c8
        exact absurd (Option.some.inj H) (by rw [hr_.out]; decide)
    · rw [if_neg c6] at H
      have c6b0 : (t263 == a0 && (t264 == 1 && (t265 == 0))) = false := by simpa using c6
      (try (have c6b1 : decide (t263 = a0 && (t264 == 1 && (t265 == 0))) = false := by simpa using c6))
      (try (have c6b2 : (t263 == a0 && (t264 == 1 && (t265 == 0))) = false := by simpa using c6))
      (try (have c6b3 : ¬ (t263 = a0 && (t264 == 1 && (t265 == 0))) := by simpa using c6))
      clear c6
      exact absurd (Option.some.inj H) (by rw [hr_.out]; decide)
  · replace c4 := Bool.eq_false_iff.mpr c4
    subst c4
    have H1 : (some false) = some r := by rw [if_neg (show ¬ (false = true) by decide)] at H; exact H
    clear H
    have H := H1
    clear H1
    exact absurd (Option.some.inj H) (by rw [hr_.out]; decide)

/-- THE ONE PURE STATEMENT of cambiumlaw13_InodeKeys: yours. -/
def cambiumlaw13_InodeKeys.Pure : Prop := ∀ (a0 : Int) (a1 : Int), (Lit.int .i64 a0).wf = true → (Lit.int .i64 a1).wf = true → ∃ k, cambiumlaw13_InodeKeys.f k a0 a1 = some true
theorem cambiumlaw13_InodeKeys.walk (P : cambiumlaw13_InodeKeys.Pure) (a0 : Int) (a1 : Int) (w : World) (w0 : (Lit.int .i64 a0).wf = true) (w1 : (Lit.int .i64 a1).wf = true) :
    Calls Try.prog 4 #[.int .i64 a0, .int .i64 a1] w fun e w' => e = .returned (.bool true) ∧ Below w.heap.size w w' := by
  obtain ⟨k, h⟩ := P a0 a1 w0 w1
  refine (cambiumlaw13_InodeKeys.calls k a0 a1 true w ⟨rfl⟩ h).mono ?_
  rintro e w' ⟨rfl, hd⟩
  exact ⟨rfl, hd⟩

/-! ### GIVEN num_Take: function 38 -/
def takeStep (x c : Int) : Int := Go.bits .or .i64 (wrap64 (x * 256)) (wrap64 c)
def num_Take.f (l0 : List Int) (n : Int) : Option (Int × List Int × Int) :=
  if n < 1 ∨ 7 < n then some (0, [], 1) else if (l0.length : Int) < n then some (0, [], 2) else (num_join.f [] (l0.drop n.toNat)).bind fun r => some ((l0.take n.toNat).foldl takeStep 0, r, 0)
theorem foldT (l : List Int) (a : Int) (k : Nat) (h : k < l.length) : (l.take (k + 1)).foldl takeStep a = takeStep ((l.take k).foldl takeStep a) (rd l k) := by
  rw [List.take_succ_eq_append_getElem h, List.foldl_append]
  simp [rd, List.getD_eq_getElem?_getD, h]
set_option maxHeartbeats 1000000 in
theorem num_Take.calls (A0 : Option Addr) (c0 : Nat) (l0 : List Int) (n : Int) (r1 : Int) (r2 : List Int) (r3 : Int) (w : World) (hr0 : Kd.C (Kd.int .u8) w A0 l0.length l0) (hc0 : l0.length ≤ c0) (h : num_Take.f l0 n = some (r1, r2, r3)) :
    Calls Try.prog 38 #[.slice A0 l0.length c0, .int .i64 n] w fun e w' => ∃ v1_ : Value, e = .returned (.tuple #[.int .i64 r1, v1_, .int .i64 r3]) ∧ Kd.R (Kd.int .u8) 5 w' w.heap.size (fun _ => True) v1_ r2 ∧ Below w.heap.size w w' := by
  have HR0 := Aside0.mk hr0
  have HC0 := Aside0.mk hc0
  have HM := Aside0.mk hr0.2.1
  clear hr0 hc0
  unfold num_Take.f at h
  by_cases hbad : n < 1 ∨ 7 < n
  · rw [if_pos hbad] at h
    obtain ⟨rfl, rfl, rfl⟩ : 0 = r1 ∧ [] = r2 ∧ 1 = r3 := by simpa using h
    clear h
    rcases hbad with hbad | hbad
    all_goals
      go_enter Try.func38, Try.ntmps38
      go_wp2
      go_ret3
      exact ⟨_, rfl, Kd.R_nil _ _ _ _ _, Below.refl _ _⟩
  rw [if_neg hbad] at h
  have h1 : 1 ≤ n := by omega
  have h7 : n ≤ 7 := by omega
  clear hbad
  obtain ⟨m, rfl⟩ : ∃ m : Nat, n = m := ⟨n.toNat, by omega⟩
  have hm := HM.out
  by_cases hsh : (l0.length : Int) < m
  · rw [if_pos hsh] at h
    obtain ⟨rfl, rfl, rfl⟩ : 0 = r1 ∧ [] = r2 ∧ 2 = r3 := by simpa using h
    clear h
    have hsh2 : decide (l0.length < m) = true := by simp; omega
    go_enter Try.func38, Try.ntmps38
    go_wp2
    go_ret3
    exact ⟨_, rfl, Kd.R_nil _ _ _ _ _, Below.refl _ _⟩
  · rw [if_neg hsh] at h
    obtain ⟨q, hq, hr⟩ := Option.bind_eq_some_iff.1 h
    obtain ⟨rfl, rfl, rfl⟩ : _ = r1 ∧ q = r2 ∧ 0 = r3 := by simpa using hr
    rw [Int.toNat_natCast] at *
    have HQ := Aside0.mk hq
    clear h hr hq
    have hsh2 : decide (l0.length < m) = false := by simp; omega
    have hle : m ≤ l0.length := by omega
    obtain ⟨i0, hi0, _, hs0, _⟩ := info_parts info5
    have hcut := cut_to (P := Try.prog) 26 5 .i64 Try.underlying26 hi0 A0 l0.length c0 m (by omega) (by omega) HC0.out
    rw [Int.toNat_natCast] at hcut
    obtain ⟨A1, ys, HY, hcut2, HD, HCD⟩ := Own.cut_drop (P := Try.prog) (Kd.int .u8) 26 5 .i64 Try.underlying26 (by kernel_rfl) HR0.out HC0.out m hle
    go_enter Try.func38, Try.ntmps38
    go_wp2
    go_loop [7, 26] (fun v i => ∃ k : Nat, k ≤ m ∧ i = .int .i64 k ∧ v = .int .i64 ((l0.take k).foldl takeStep 0)) (fun _ i => m - (intOf i).toNat)
    case atStart => exact ⟨0, by omega, rfl, rfl⟩
    case round =>
      obtain ⟨k, hk, rfl, rfl⟩ := hrel
      by_cases hlt : k < m
      · have HF := Aside0.mk (foldT l0 0 k (by omega))
        obtain ⟨ad, hAd, hcell⟩ := Kd.at_int HR0.out (k : Int) (by omega) (by omega)
        subst hAd
        rw [Int.toNat_natCast] at hcell
        go_wp2
        go_round
        case rel => exact ⟨k + 1, by omega, by go_num, by rw [HF.out]; rfl⟩
        case measure => simp [intOf]; omega
      · obtain rfl : k = m := by omega
        go_wp2_with (go_at_call 41; refine (num_join.calls none 0 [] _ _ ys q _ (Kd.C_nil _ _) (Nat.le_refl _) HD.out HCD.out (by rw [HY.out]; exact HQ.out)).mono ?_; rintro e w1 ⟨v1, rfl, ho, hb⟩; have HO := Aside0.mk ho; have HB1 := Aside0.mk hb; clear ho hb)
        go_ret3
        exact ⟨_, rfl, HO.out, HB1.out⟩
/-! ### end of GIVEN -/
/-! ### inode_take: function 31 -/
def inode_take.l0 : Nat → List Int → List Int → List Int → Int → Int → Option (List Int × Bool)
  | 0, _, _, _, _, _ => none
  | k + 1, x0, x6, x12, x13, x14 => if x14 < x13 then (if 0 ≤ x14 then (if x14 < (x12.length : Int) then ((num_Take.f x0 (rd x12 x14)).bind fun bt276 => (if bt276.2.2 = 0 then (if x6.length < 17592186044416 then (inode_take.l0 k bt276.2.1 (x6 ++ [bt276.1]) x12 x13 (wrap64 (x14 + 1))) else (none)) else (some (([] : List Int), false)))) else (none)) else (none)) else (some (x6, ((x0.length : Int) == 0)))
def inode_take.f (k : Nat) (l0 : List Int) (l1 : List Int) : Option (List Int × Bool) := inode_take.l0 k l0 ([] : List Int) l1 (l1.length : Int) 0
theorem inode_take.mono_l : ∀ k, (∀ y0 y1 y2 y3 y4, LeO (inode_take.l0 k y0 y1 y2 y3 y4) (inode_take.l0 (k + 1) y0 y1 y2 y3 y4))
  | 0 => fun _ _ _ _ _ r h => by simp [inode_take.l0] at h
  | k + 1 => by
    have ih0 := inode_take.mono_l k
    · intro y0 y1 y2 y3 y4
      unfold inode_take.l0
      repeat' first
      | (with_reducible exact ih0 _ _ _ _ _)
      | (with_reducible exact LeO.refl _)
      | (with_reducible exact LeO.none _)
      | (with_reducible refine LeO.ite ?_ ?_)
      | (with_reducible refine LeO.bind ?_ (fun _ => ?_))
      | exact ih0 _ _ _ _ _
      | exact LeO.none _
      | refine LeO.ite ?_ ?_
      | refine LeO.bind ?_ (fun _ => ?_)
theorem inode_take.mono : ∀ a0 a1 k, LeO (inode_take.f k a0 a1) (inode_take.f (k + 1) a0 a1) := by
  intro a0 a1 k
  have ih0 := inode_take.mono_l k
  unfold inode_take.f
  repeat' first
      | (with_reducible exact ih0 _ _ _ _ _)
      | (with_reducible exact LeO.refl _)
      | (with_reducible exact LeO.none _)
      | (with_reducible refine LeO.ite ?_ ?_)
      | (with_reducible refine LeO.bind ?_ (fun _ => ?_))
      | exact ih0 _ _ _ _ _
      | exact LeO.none _
      | refine LeO.ite ?_ ?_
      | refine LeO.bind ?_ (fun _ => ?_)
set_option maxHeartbeats 8000000 in
set_option maxRecDepth 100000 in
theorem inode_take.calls (k : Nat) (P0_ : Nat → Prop) (A0 : Option Addr) (c0 : Nat) (l0 : List Int) (A1 : Option Addr) (c1 : Nat) (l1 : List Int) (r1 : List Int) (r2 : Bool) (w : World) (hs0 : Kd.V (Kd.int .u8) 5 w w.heap.size (fun k_ => P0_ k_) (.slice A0 l0.length c0) l0) (hr1 : Kd.C (Kd.int .i64) w A1 l1.length l1) (hc1 : l1.length ≤ c1) (h : inode_take.f k l0 l1 = some (r1, r2)) :
    Calls Try.prog 31 #[.slice A0 l0.length c0, .slice A1 l1.length c1] w fun e w' => ∃ v0_ : Value, e = .returned (.tuple #[v0_, .bool r2]) ∧ Kd.R (Kd.int .i64) 3 w' w.heap.size (fun k_ => (w.heap.size ≤ k_)) v0_ r1 ∧ Below w.heap.size w w' := by
  have HO0 := Aside0.mk (show Kd.V (Kd.int .u8) 5 w w.heap.size (fun k_ => (P0_ k_ ∨ w.heap.size ≤ k_)) (.slice A0 l0.length c0) l0 from Kd.V_mono hs0 (fun k_ hk => .inl hk))
  have HR1 := Aside0.mk hr1
  have HC1 := Aside0.mk hc1
  clear hr1 hc1
  have HB := Aside0.mk (Below.refl w.heap.size w)
  have H : (inode_take.l0 k l0 ([] : List Int) l1 (l1.length : Int) 0) = some (r1, r2) := h
  clear h
  have H' := Aside0.mk H
  clear H
  go_enter Try.func31, Try.ntmps31
  go_wp2
  go_loopg [0, 6, 14] k (fun kq v0 v6 v14 w' => ∃ (x0_1 : List Int) (x6_1 : List Int) (x14_1 : Int), v14 = .int .i64 x14_1 ∧ Aside0 (inode_take.l0 kq x0_1 x6_1 l1 (l1.length : Int) x14_1 = some (r1, r2)) ∧ Aside0 (kq ≤ k) ∧ Aside0 (Kd.V (Kd.int .u8) 5 w' w.heap.size (fun k_ => (P0_ k_ ∨ w.heap.size ≤ k_) ∧ some k_ ≠ (v6 : Value).ownBlock) v0 x0_1) ∧ Aside0 (Kd.R (Kd.int .i64) 3 w' w.heap.size (fun k_ => (w.heap.size ≤ k_)) v6 x6_1) ∧ Aside0 (Below w.heap.size w w'))
  case atStart => exact ⟨(l0), (([] : List Int)), (0), (by first | rfl | (simp; done) | (simp [*]; done)), H', ⟨Nat.le_refl _⟩, ⟨by (with_reducible repeat (first | apply Kd.V_alloc | apply Kd.V_drewN | apply Kd.V_drew)); exact Kd.V_mono HO0.out (fun _ hk => ⟨hk, (by simp [Value.ownBlock])⟩)⟩, ⟨by first | exact Kd.R_nil _ _ _ _ _ | exact Kd.N_nil _ _ _ _ _ | exact Kd.V_nil _ _ _ _ _ | exact Kd.Q_nil _ _ _ _ _ | exact Kd.S_nil _ _ _ _ _⟩, ⟨by repeat (first | (with_reducible first | exact HB.out | apply below_alloc | apply pw_below_drewN | apply below_drew1) | exact HB.out)⟩⟩
  case round =>
    clear H'
    try clear c1
    try clear p2
    obtain ⟨x0_1, x6_1, x14_1, rfl, HA, HK1, HO_0, HO_6, HB⟩ := hrel
    cases gk with
    | zero => exact absurd HA.out (by simp [inode_take.l0])
    | succ k1 =>
      have H := HA.out
      clear HA
      simp only [inode_take.l0] at H
      by_cases c3 : x14_1 < (l1.length : Int)
      · rw [if_pos c3] at H
        have c3b0 : decide (x14_1 < (l1.length : Int)) = true := decide_eq_true c3
        clear c3
        by_cases c4 : 0 ≤ x14_1
        · rw [if_pos c4] at H
          have c4b0 : decide (0 ≤ x14_1) = true := decide_eq_true c4
          clear c4
          by_cases c5 : x14_1 < (l1.length : Int)
          · rw [if_pos c5] at H
            have c5b0 : decide (x14_1 < (l1.length : Int)) = true := decide_eq_true c5
            clear c5
            replace H := Option.bind_eq_some_iff.mp H
            obtain ⟨⟨t276, t277, t278⟩, A60, H⟩ := H
            replace H : (if t278 = 0 then (if x6_1.length < 17592186044416 then (inode_take.l0 k1 t277 (x6_1 ++ [t276]) l1 (l1.length : Int) (wrap64 (x14_1 + 1))) else (none)) else (some (([] : List Int), false))) = some (r1, r2) := H
            have A6 := Aside0.mk A60
            clear A60
            by_cases c7 : t278 = 0
            · rw [if_pos c7] at H
              have c7b0 : (t278 == 0) = true := beq_iff_eq.mpr c7
              have c7b1 : (t278 != 0) = false := bne_eq_false_iff_eq.mpr c7
              clear c7
              by_cases c8 : x6_1.length < 17592186044416
              · rw [if_pos c8] at H
                have LMc8 := Aside0.mk c8
                clear c8
                obtain ⟨y281, hy281⟩ : ∃ y_ : List Int, y_ = (x6_1 ++ [t276]) := ⟨_, rfl⟩
                replace H : (inode_take.l0 k1 t277 y281 l1 (l1.length : Int) (wrap64 (x14_1 + 1))) = some (r1, r2) := by first | (rw [hy281]; with_reducible exact H) | (have H2_ := (Option.bind_some _ _).symm.trans H; rw [hy281]; with_reducible exact H2_) | (have H2_ := (Option.bind_some _ _).symm.trans H; with_reducible exact H2_) | with_reducible exact H | (rw [hy281]; exact H) | exact H
                have Ny281 := Aside0.mk hy281
                clear hy281
                have H' := Aside0.mk H
                clear H
                have p275 : 0 ≤ (x14_1 : Int) := of_decide_eq_true (by first | (with_reducible assumption) | assumption)
                have q275 : x14_1 < (l1.length : Int) := of_decide_eq_true (by first | (with_reducible assumption) | assumption)
                obtain ⟨ad275, e275, hx275_0⟩ := Kd.at_int HR1.out x14_1 p275 q275
                cases e275
                replace hx275_0 := (HB.out.cell (World.block_lt_of_cell? w _ hx275_0)).trans hx275_0
                replace p275 := eq_true p275
                replace q275 := eq_true q275
                obtain ⟨Ao9, co9, eo9⟩ := Kd.V_slice HO_0.out
                subst eo9
                go_wp2_with (first | ((with_reducible refine gate_callee (f := 38) rfl ?_); refine goesL_ (some 21) rfl rfl Try.func38 (by kernel_rfl) rfl #[.slice Ao9 x0_1.length co9, .int .i64 (rd l1 x14_1)] rfl (by (try simp only [List.map_toArray, List.map_cons, List.map_nil]); first | done | rfl | (simp only [List.length_drop, List.length_take]; rfl)) ?_; (with_reducible refine (num_Take.calls _ _ x0_1 (rd l1 x14_1) t276 t277 t278 _ ?side1 ?side2 A6.out).mono ?_); (case side1 => repeat (first | exact (Kd.V_reads' HO_0.out).2.2 | (with_reducible refine Kd.C_alloc ?_ _) | (with_reducible refine Kd.C_drewN ?_ _) | (with_reducible refine Kd.C_drew ?_))); (case side2 => exact (Kd.V_reads' HO_0.out).2.1); rintro e w10 ⟨v279, rfl, ho0, hb⟩; refine ⟨_, rfl, ?_⟩; have n0_ := Aside0.mk (Kd.V_elder' (by (with_reducible repeat (first | apply Kd.V_alloc | apply Kd.V_drewN | apply Kd.V_drew)); exact HO_0.out) (Kd.R_base ho0) hb); have n1_ := Aside0.mk (Kd.R_below (by (with_reducible repeat (first | apply Kd.R_alloc | apply Kd.R_drewN | apply Kd.R_drew)); exact HO_6.out) hb); have n2_ := Aside0.mk (Kd.R_lower (Kd.R_newM (M := fun k_ => (w.heap.size ≤ k_)) ho0 (below_size (by repeat (first | (with_reducible first | exact HB.out | apply below_alloc | apply pw_below_drewN | apply below_drew1) | exact HB.out))) (fun k_ h_ => h_)) (below_size (by repeat (first | (with_reducible first | exact HB.out | apply below_alloc | apply pw_below_drewN | apply below_drew1) | exact HB.out)))); have n3_ := Aside0.mk (below_step (by repeat (first | (with_reducible first | exact HB.out | apply below_alloc | apply pw_below_drewN | apply below_drew1) | exact HB.out)) hb); clear HO_0; clear HO_6; clear HB; have HO_0 := n0_; have HO_6 := n1_; have HO280 := n2_; have HB := n3_; clear n0_ n1_ n2_ n3_; (try clear hb); (try clear hb2); (try clear hk); (try clear hi); (try clear ho0)) | ((with_reducible refine gate_builtin (b := .append) (xs := #[.tmp 27, .tmp 29]) rfl ?_); at_builtin; refine Kd.R_append (Kd.int .i64) (w0 := w) w.heap.size rfl (.tmp 27) (.tmp 29) 56 3 (.int .i64 0) 8 rfl Try.underlying56 info3 rfl (by decide) (by omega) u6 x6_1 t276 [.int .i64 t276] (fun k_ => (w.heap.size ≤ k_)) (fun _ => False) rfl rfl ?aP (fun _ hk => hk.elim) ?aF ?aO ?aB ?aS ?aL ?_; (case aP => exact rfl); (case aB => exact (by repeat (first | (with_reducible first | exact HB.out | apply below_alloc | apply pw_below_drewN | apply below_drew1) | exact HB.out))); (case aF => exact (fun k_ hk => (Nat.le_trans (below_size (by repeat (first | (with_reducible first | exact HB.out | apply below_alloc | apply pw_below_drewN | apply below_drew1) | exact HB.out))) hk))); (case aO => exact (by (with_reducible repeat (first | apply Kd.R_alloc | apply Kd.R_drewN | apply Kd.R_drew)); exact HO_6.out)); (case aS => exact (below_size (by repeat (first | (with_reducible first | exact HB.out | apply below_alloc | apply pw_below_drewN | apply below_drew1) | exact HB.out)))); (case aL => have := LMc8.out; omega); intro v282 w11 ho hb hg hat; rw [← Ny281.out] at ho; have n0_ := Aside0.mk (Kd.V_afterv (ok := (fun k_ => (P0_ k_ ∨ w.heap.size ≤ k_) ∧ some k_ ≠ (v279 : Value).ownBlock)) (by (with_reducible repeat (first | apply Kd.V_alloc | apply Kd.V_drewN | apply Kd.V_drew)); exact Kd.V_mono HO_0.out (fun _ hk => ⟨⟨hk.1.1, hk.2⟩, hk.1.2⟩)) hg hat); have n1_ := Aside0.mk (Kd.R_over' (by (with_reducible repeat (first | apply Kd.R_alloc | apply Kd.R_drewN | apply Kd.R_drew)); exact HO280.out) (Kd.R_typed (by (with_reducible repeat (first | apply Kd.R_alloc | apply Kd.R_drewN | apply Kd.R_drew)); exact HO_6.out)) (by decide) hg); have n2_ := Aside0.mk (hb); have n3_ := Aside0.mk (ho); clear HO_0; clear HO280; clear HB; clear HO_6; have HO_0 := n0_; have HO280 := n1_; have HB := n2_; have HO283 := n3_; clear n0_ n1_ n2_ n3_; clear ho hb hg hat))
                go_roundg k1
                case measure => have := HK1.out; omega
                case rel => exact ⟨(t277), (y281), (wrap64 (x14_1 + 1)), (by first | rfl | (simp; done) | (simp [*]; done)), H', ⟨by have := HK1.out; omega⟩, ⟨Kd.V_mono (Kd.R_V (by (with_reducible repeat (first | apply Kd.R_alloc | apply Kd.R_drewN | apply Kd.R_drew)); exact Kd.R_mono (Kd.R_apart' HO280.out (Kd.R_typed HO283.out) (by decide)) (fun _ hk => (⟨hk.1.1, hk.2⟩ : _ ∧ _)))) (fun k_ hk => by first | exact ⟨(.inr (hk.1)), hk.2⟩ | exact (.inr (hk)))⟩, ⟨by (with_reducible repeat (first | apply Kd.R_alloc | apply Kd.R_drewN | apply Kd.R_drew)); exact HO283.out⟩, ⟨by repeat (first | (with_reducible first | exact HB.out | apply below_alloc | apply pw_below_drewN | apply below_drew1) | exact HB.out)⟩⟩
              · rw [if_neg c8] at H
                exact absurd H (by simp)
            · rw [if_neg c7] at H
              have c7b0 : (t278 == 0) = false := beq_eq_false_iff_ne.mpr c7
              have c7b1 : (t278 != 0) = true := bne_iff_ne.mpr c7
              simp only [Option.some.injEq, Prod.mk.injEq] at H
              obtain ⟨rfl, rfl⟩ := H
              have p275 : 0 ≤ (x14_1 : Int) := of_decide_eq_true (by first | (with_reducible assumption) | assumption)
              have q275 : x14_1 < (l1.length : Int) := of_decide_eq_true (by first | (with_reducible assumption) | assumption)
              obtain ⟨ad275, e275, hx275_0⟩ := Kd.at_int HR1.out x14_1 p275 q275
              cases e275
              replace hx275_0 := (HB.out.cell (World.block_lt_of_cell? w _ hx275_0)).trans hx275_0
              replace p275 := eq_true p275
              replace q275 := eq_true q275
              obtain ⟨Ao12, co12, eo12⟩ := Kd.V_slice HO_0.out
              subst eo12
              go_wp2_with (first | ((with_reducible refine gate_callee (f := 38) rfl ?_); refine goesL_ (some 21) rfl rfl Try.func38 (by kernel_rfl) rfl #[.slice Ao12 x0_1.length co12, .int .i64 (rd l1 x14_1)] rfl (by (try simp only [List.map_toArray, List.map_cons, List.map_nil]); first | done | rfl | (simp only [List.length_drop, List.length_take]; rfl)) ?_; (with_reducible refine (num_Take.calls _ _ x0_1 (rd l1 x14_1) t276 t277 t278 _ ?side1 ?side2 A6.out).mono ?_); (case side1 => repeat (first | exact (Kd.V_reads' HO_0.out).2.2 | (with_reducible refine Kd.C_alloc ?_ _) | (with_reducible refine Kd.C_drewN ?_ _) | (with_reducible refine Kd.C_drew ?_))); (case side2 => exact (Kd.V_reads' HO_0.out).2.1); rintro e w13 ⟨v279, rfl, ho0, hb⟩; refine ⟨_, rfl, ?_⟩; have n0_ := Aside0.mk (Kd.V_elder' (by (with_reducible repeat (first | apply Kd.V_alloc | apply Kd.V_drewN | apply Kd.V_drew)); exact HO_0.out) (Kd.R_base ho0) hb); have n1_ := Aside0.mk (Kd.R_below (by (with_reducible repeat (first | apply Kd.R_alloc | apply Kd.R_drewN | apply Kd.R_drew)); exact HO_6.out) hb); have n2_ := Aside0.mk (Kd.R_lower (Kd.R_newM (M := fun k_ => (w.heap.size ≤ k_)) ho0 (below_size (by repeat (first | (with_reducible first | exact HB.out | apply below_alloc | apply pw_below_drewN | apply below_drew1) | exact HB.out))) (fun k_ h_ => h_)) (below_size (by repeat (first | (with_reducible first | exact HB.out | apply below_alloc | apply pw_below_drewN | apply below_drew1) | exact HB.out)))); have n3_ := Aside0.mk (below_step (by repeat (first | (with_reducible first | exact HB.out | apply below_alloc | apply pw_below_drewN | apply below_drew1) | exact HB.out)) hb); clear HO_0; clear HO_6; clear HB; have HO_0 := n0_; have HO_6 := n1_; have HO280 := n2_; have HB := n3_; clear n0_ n1_ n2_ n3_; (try clear hb); (try clear hb2); (try clear hk); (try clear hi); (try clear ho0)))
              go_ret2
              exact ⟨_, by first | rfl | (simp [errW_none, errW_some] <;> rfl) | (simp [*, errW_none, errW_some] <;> rfl), by first | exact Kd.R_nil _ _ _ _ _ | exact Kd.N_nil _ _ _ _ _ | exact Kd.V_nil _ _ _ _ _ | exact Kd.Q_nil _ _ _ _ _ | exact Kd.S_nil _ _ _ _ _, by repeat (first | (with_reducible first | exact HB.out | apply below_alloc | apply pw_below_drewN | apply below_drew1) | exact HB.out)⟩
          · rw [if_neg c5] at H
            exact absurd H (by simp)
        · rw [if_neg c4] at H
          exact absurd H (by simp)
      · rw [if_neg c3] at H
        have c3b0 : decide (x14_1 < (l1.length : Int)) = false := decide_eq_false c3
        clear c3
        simp only [Option.some.injEq, Prod.mk.injEq] at H
        obtain ⟨rfl, rfl⟩ := H
        obtain ⟨Ao14, co14, eo14⟩ := Kd.V_slice HO_0.out
        subst eo14
        go_wp2
        go_ret2
        exact ⟨_, by first | rfl | (simp [errW_none, errW_some] <;> rfl) | (simp [*, errW_none, errW_some] <;> rfl), by (with_reducible repeat (first | apply Kd.R_alloc | apply Kd.R_drewN | apply Kd.R_drew)); exact HO_6.out, by repeat (first | (with_reducible first | exact HB.out | apply below_alloc | apply pw_below_drewN | apply below_drew1) | exact HB.out)⟩

/-! ### inode_Take: function 20 -/
def inode_Take.f (k : Nat) (l0 : List Int) : Option (Int × Int × Int × Int) := (inode_take.f k l0 (([1, 2, 4] : List Int))).bind fun bt288 => (if bt288.2 = true then (if 0 < (bt288.1.length : Int) then (if 1 < (bt288.1.length : Int) then (if 2 < (bt288.1.length : Int) then ((inode_Put.f k (rd bt288.1 0) (rd bt288.1 1) (rd bt288.1 2)).bind fun bt296 => (if bt296.2 = 0 then (some (rd bt288.1 0, rd bt288.1 1, rd bt288.1 2, 0)) else (some (0, 0, 0, 3)))) else (none)) else (none)) else (none)) else (some (0, 0, 0, 3)))
theorem inode_Take.mono : ∀ a0 k, LeO (inode_Take.f k a0) (inode_Take.f (k + 1) a0) := by
  intro a0 k
  unfold inode_Take.f
  repeat' first
      | (with_reducible exact inode_Put.mono _ _ _ _)
      | (with_reducible exact inode_take.mono _ _ _)
      | (with_reducible exact LeO.refl _)
      | (with_reducible exact LeO.none _)
      | (with_reducible refine LeO.ite ?_ ?_)
      | (with_reducible refine LeO.bind ?_ (fun _ => ?_))
      | exact inode_Put.mono _ _ _ _
      | exact inode_take.mono _ _ _
      | exact LeO.none _
      | refine LeO.ite ?_ ?_
      | refine LeO.bind ?_ (fun _ => ?_)
def inode_Take.T3 : Bool × List (List Nat × List Nat) := (true, [([], []), ([0], [0]), ([1], [1]), ([], []), ([3], [3]), ([4], [4]), ([], []), ([6], [6]), ([7], [7]), ([2, 5, 8], [2, 5, 8]), ([], []), ([10, 9, 0, 1, 2, 3, 4, 5, 6, 7, 8, 9, 10], [9, 10])])
def inode_Take.B3 : List Nat := [0, 1, 3, 0, 8, 24, 0, 64, 192, 511, 0, 2047]
theorem inode_Take.tab3 : rtab .any (opsOf Try.f20 3) = inode_Take.T3 := by kernel_rfl
theorem inode_Take.bits3 : waitsOk inode_Take.T3.2 inode_Take.B3 = true := by kernel_rfl
set_option maxHeartbeats 8000000 in
set_option maxRecDepth 100000 in
theorem inode_Take.calls (k : Nat) (A0 : Option Addr) (c0 : Nat) (l0 : List Int) (r1 : Int) (r2 : Int) (r3 : Int) (r4 : Int) (w : World) (hr0 : Kd.C (Kd.int .u8) w A0 l0.length l0) (hc0 : l0.length ≤ c0) (h : inode_Take.f k l0 = some (r1, r2, r3, r4)) :
    Calls Try.prog 20 #[.slice A0 l0.length c0] w fun e w' => e = .returned (.tuple #[.agg #[.int .i64 r1, .int .i64 r2, .int .i64 r3], .int .i64 r4]) ∧ Below w.heap.size w w' := by
  have hu23 := Try.underlying23
  have HR0 := Aside0.mk hr0
  have HC0 := Aside0.mk hc0
  clear hr0 hc0
  have HB := Aside0.mk (Below.refl w.heap.size w)
  have H : ((inode_take.f k l0 (([1, 2, 4] : List Int))).bind fun bt288 => (if bt288.2 = true then (if 0 < (bt288.1.length : Int) then (if 1 < (bt288.1.length : Int) then (if 2 < (bt288.1.length : Int) then ((inode_Put.f k (rd bt288.1 0) (rd bt288.1 1) (rd bt288.1 2)).bind fun bt296 => (if bt296.2 = 0 then (some (rd bt288.1 0, rd bt288.1 1, rd bt288.1 2, 0)) else (some (0, 0, 0, 3)))) else (none)) else (none)) else (none)) else (some (0, 0, 0, 3)))) = some (r1, r2, r3, r4) := h
  clear h
  obtain ⟨y285, hy285⟩ : ∃ y_ : List Int, y_ = (([1, 2, 4] : List Int)) := ⟨_, rfl⟩
  replace H : ((inode_take.f k l0 y285).bind fun bt288 => (if bt288.2 = true then (if 0 < (bt288.1.length : Int) then (if 1 < (bt288.1.length : Int) then (if 2 < (bt288.1.length : Int) then ((inode_Put.f k (rd bt288.1 0) (rd bt288.1 1) (rd bt288.1 2)).bind fun bt296 => (if bt296.2 = 0 then (some (rd bt288.1 0, rd bt288.1 1, rd bt288.1 2, 0)) else (some (0, 0, 0, 3)))) else (none)) else (none)) else (none)) else (some (0, 0, 0, 3)))) = some (r1, r2, r3, r4) := by first | (rw [hy285]; with_reducible exact H) | (have H2_ := (Option.bind_some _ _).symm.trans H; rw [hy285]; with_reducible exact H2_) | (have H2_ := (Option.bind_some _ _).symm.trans H; with_reducible exact H2_) | with_reducible exact H | (rw [hy285]; exact H) | exact H
  have Ny285 := Aside0.mk hy285
  clear hy285
  replace H := Option.bind_eq_some_iff.mp H
  obtain ⟨⟨t288, t291⟩, A20, H⟩ := H
  replace H : (if t291 = true then (if 0 < (t288.length : Int) then (if 1 < (t288.length : Int) then (if 2 < (t288.length : Int) then ((inode_Put.f k (rd t288 0) (rd t288 1) (rd t288 2)).bind fun bt296 => (if bt296.2 = 0 then (some (rd t288 0, rd t288 1, rd t288 2, 0)) else (some (0, 0, 0, 3)))) else (none)) else (none)) else (none)) else (some (0, 0, 0, 3))) = some (r1, r2, r3, r4) := H
  have A2 := Aside0.mk A20
  clear A20
  by_cases c3 : t291 = true
  · subst c3
    have H1 : (if 0 < (t288.length : Int) then (if 1 < (t288.length : Int) then (if 2 < (t288.length : Int) then ((inode_Put.f k (rd t288 0) (rd t288 1) (rd t288 2)).bind fun bt296 => (if bt296.2 = 0 then (some (rd t288 0, rd t288 1, rd t288 2, 0)) else (some (0, 0, 0, 3)))) else (none)) else (none)) else (none)) = some (r1, r2, r3, r4) := by rw [if_pos rfl] at H; exact H
    clear H
    have H := H1
    clear H1
    by_cases c4 : 0 < (t288.length : Int)
    · rw [if_pos c4] at H
      have c4b0 : decide (0 < (t288.length : Int)) = true := decide_eq_true c4
      have c4b1 : decide (0 < t288.length) = true := decide_eq_true (by omega)
      clear c4
      by_cases c5 : 1 < (t288.length : Int)
      · rw [if_pos c5] at H
        have c5b0 : decide (1 < (t288.length : Int)) = true := decide_eq_true c5
        have c5b1 : decide (1 < t288.length) = true := decide_eq_true (by omega)
        clear c5
        by_cases c6 : 2 < (t288.length : Int)
        · rw [if_pos c6] at H
          have c6b0 : decide (2 < (t288.length : Int)) = true := decide_eq_true c6
          have c6b1 : decide (2 < t288.length) = true := decide_eq_true (by omega)
          clear c6
          replace H := Option.bind_eq_some_iff.mp H
          obtain ⟨⟨t296, t299⟩, A70, H⟩ := H
          replace H : (if t299 = 0 then (some (rd t288 0, rd t288 1, rd t288 2, 0)) else (some (0, 0, 0, 3))) = some (r1, r2, r3, r4) := H
          have A7 := Aside0.mk A70
          clear A70
          by_cases c8 : t299 = 0
          · rw [if_pos c8] at H
            have c8b0 : (t299 == 0) = true := beq_iff_eq.mpr c8
            have c8b1 : (t299 != 0) = false := bne_eq_false_iff_eq.mpr c8
            clear c8
            simp only [Option.some.injEq, Prod.mk.injEq] at H
            obtain ⟨rfl, rfl, rfl, rfl⟩ := H
            go_enter Try.func20, Try.ntmps20
            try go_wp2_with (first | ((with_reducible refine gate_dst (N := 2) rfl ?_); refine box_event ?hg (N := 2) ?hd (cs := #[.int .i64 0, .int .i64 0, .int .i64 0]) (t := 23) ?hr ?_; (case hd => rfl); (case hg => rfl); (case hr => first | (go_simp; done) | (go_simp; rfl)); intro gb284 hg w9 hbox hb; have n0_ := Aside0.mk (below_step (by repeat (first | (with_reducible first | exact HB.out | apply below_alloc | apply pw_below_drewN | apply below_drew1) | exact HB.out)) hb); have n1_ := Aside0.mk (hbox); have n2_ := Aside0.mk ((by rw [hg]; exact (below_size (by repeat (first | (with_reducible first | exact HB.out | apply below_alloc | apply pw_below_drewN | apply below_drew1) | exact HB.out))) : w.heap.size ≤ gb284)); have n3_ := Aside0.mk ((by rw [hg]; exact (below_size (by repeat (first | (with_reducible first | exact HB.out | apply below_alloc | apply pw_below_drewN | apply below_drew1) | exact HB.out))) : w.heap.size ≤ gb284)); clear HB; have HB := n0_; have BK284 := n1_; have GW284 := n2_; have GE284 := n3_; clear n0_ n1_ n2_ n3_; clear hb hbox hg) | ((with_reducible refine gate_dst (N := 11) rfl ?_); refine Kd.R_lit (Kd.int .i64) _ 3 ?hg (N := 11) ?hd (xs := ([1, 2, 4] : List Int)) (inner := [.int .i64 1, .int .i64 2, .int .i64 4]) (ok := fun _ => True) (okp := fun _ => True) ?hr ?hp (fun _ hk => hk) trivial (Below.refl _ _) (Nat.le_refl _) (by simp) ?_; (case hd => rfl); (case hg => rfl); (case hr => first | (go_simp; done) | (go_simp; rfl)); (case hp => exact (Reps.one (show Kd.M (Kd.int .i64) _ _ _ 1 [.int .i64 1] from rfl) (Reps.one (show Kd.M (Kd.int .i64) _ _ _ 2 [.int .i64 2] from rfl) (Reps.one (show Kd.M (Kd.int .i64) _ _ _ 4 [.int .i64 4] from rfl) (Reps.none _ _))))); intro v286 w10 ho11 hb hg_ hnew_; clear hg_ hnew_; (first | rw [← Ny285.out] at ho11 | (simp only [Int.reduceToNat] at ho11; rw [← Ny285.out] at ho11)); have n0_ := Aside0.mk (Kd.R_lower ho11 (below_size (by repeat (first | (with_reducible first | exact HB.out | apply below_alloc | apply pw_below_drewN | apply below_drew1 | refine below_set ?_ GE284.out) | exact HB.out)))); have n1_ := Aside0.mk (blk_below (g := gb284) (o := .cells #[.int .i64 0, .int .i64 0, .int .i64 0] 23 (0, 0)) (by (with_reducible repeat (first | refine blk_drewN ?_ _ | refine blk_drew ?_ | refine blk_alloc ?_ _)); exact BK284.out) hb); have n2_ := Aside0.mk (below_step (by repeat (first | (with_reducible first | exact HB.out | apply below_alloc | apply pw_below_drewN | apply below_drew1 | refine below_set ?_ GE284.out) | exact HB.out)) hb); clear BK284; clear HB; have HO287 := n0_; have BK284 := n1_; have HB := n2_; clear n0_ n1_ n2_; clear hb ho11; obtain ⟨Ao12, co12, eo12⟩ := Kd.R_slice HO287.out; subst eo12) | ((with_reducible refine gate_callee (f := 31) rfl ?_); refine goesL_ (some 12) rfl rfl Try.func31 (by kernel_rfl) rfl #[.slice A0 l0.length c0, .slice Ao12 y285.length co12] rfl (by (try simp only [List.map_toArray, List.map_cons, List.map_nil]); first | done | rfl | (simp only [List.length_drop, List.length_take]; rfl)) ?_; (with_reducible refine (inode_take.calls k (fun k_ => k_ < w.heap.size) _ _ l0 _ _ y285 t288 true _ ?side1 ?side2 ?side3 A2.out).mono ?_); (case side1 => exact Kd.V_mk HC0.out (Kd.F_below (Kd.C_F (Kd.heap_int .u8) HR0.out) (by repeat (first | (with_reducible first | exact HB.out | apply below_alloc | apply pw_below_drewN | apply below_drew1 | refine below_set ?_ GE284.out) | exact HB.out)))); (case side2 => repeat (first | exact (Kd.R_reads' HO287.out).2.2 | (with_reducible refine Kd.C_alloc ?_ _) | (with_reducible refine Kd.C_drewN ?_ _) | (with_reducible refine Kd.C_drew ?_))); (case side3 => exact (Kd.R_reads' HO287.out).2.1); rintro e w13 ⟨v289, rfl, ho0, hb⟩; refine ⟨_, rfl, ?_⟩; have n0_ := Aside0.mk (Kd.R_elder' (by (with_reducible repeat (first | apply Kd.R_alloc | apply Kd.R_drewN | apply Kd.R_drew)); exact HO287.out) (Kd.R_base ho0) hb); have n1_ := Aside0.mk (Kd.R_lower (Kd.R_new' (Kd.R_mono (ok' := fun k_ => True) ho0 (fun _ hk_ => trivial)) (Kd.R_lt (by (with_reducible repeat (first | apply Kd.R_alloc | apply Kd.R_drewN | apply Kd.R_drew)); exact HO287.out))) (below_size (by repeat (first | (with_reducible first | exact HB.out | apply below_alloc | apply pw_below_drewN | apply below_drew1 | refine below_set ?_ GE284.out) | exact HB.out)))); have n2_ := Aside0.mk (blk_below (g := gb284) (o := .cells #[.int .i64 0, .int .i64 0, .int .i64 0] 23 (0, 0)) (by (with_reducible repeat (first | refine blk_drewN ?_ _ | refine blk_drew ?_ | refine blk_alloc ?_ _)); exact BK284.out) hb); have n3_ := Aside0.mk (below_step (by repeat (first | (with_reducible first | exact HB.out | apply below_alloc | apply pw_below_drewN | apply below_drew1 | refine below_set ?_ GE284.out) | exact HB.out)) hb); clear HO287; clear BK284; clear HB; have HO287 := n0_; have HO290 := n1_; have BK284 := n2_; have HB := n3_; clear n0_ n1_ n2_ n3_; (try clear hb); (try clear hb2); (try clear hk); (try clear hi); (try clear ho0)))
            have n0_ := Aside0.mk (Kd.R_drew HO287.out)
            have n1_ := Aside0.mk (Kd.R_drew HO290.out)
            have n2_ := Aside0.mk (blk_drew BK284.out)
            have n3_ := Aside0.mk (below_drew1 HB.out)
            clear HO287
            clear HO290
            clear BK284
            clear HB
            have HO287 := n0_
            have HO290 := n1_
            have BK284 := n2_
            have HB := n3_
            clear n0_ n1_ n2_ n3_
            obtain ⟨Ao15, co15, eo15⟩ := Kd.R_slice HO290.out
            (first | subst eo15 | (injection eo15 with f1_ f2_ f3_; have f4_ := f1_.symm; have f5_ := f3_.symm; clear f1_ f2_ f3_; subst f4_; subst f5_))
            have p292 : 0 ≤ (0 : Int) := (by omega)
            have q292 : 0 < (t288.length : Int) := of_decide_eq_true (by first | (with_reducible assumption) | assumption)
            obtain ⟨ad292, e292, hx292_0⟩ := Kd.at_int (Kd.R_reads' HO290.out).2.2 0 p292 q292
            cases e292
            have qi292 : (0 < t288.length) = True := eq_true (by omega)
            (try rw [show ((0 : Int)).toNat = 0 from rfl] at hx292_0)
            (try rw [Addr.add_zero'] at hx292_0)
            replace p292 := eq_true p292
            replace q292 := eq_true q292
            have p293 : 0 ≤ (1 : Int) := (by omega)
            have q293 : 1 < (t288.length : Int) := of_decide_eq_true (by first | (with_reducible assumption) | assumption)
            obtain ⟨ad293, e293, hx293_0⟩ := Kd.at_int (Kd.R_reads' HO290.out).2.2 1 p293 q293
            obtain rfl : ad292 = ad293 := (by injection e293)
            (try simp only [show (1 : Int).toNat = 1 from rfl, Nat.reduceMul, Nat.reduceEqDiff, Go.Addr.add, ↓reduceIte] at hx293_0)
            have qi293 : (1 < t288.length) = True := eq_true (by omega)
            (try rw [show ((1 : Int)).toNat = 1 from rfl] at hx293_0)
            replace p293 := eq_true p293
            replace q293 := eq_true q293
            have p294 : 0 ≤ (2 : Int) := (by omega)
            have q294 : 2 < (t288.length : Int) := of_decide_eq_true (by first | (with_reducible assumption) | assumption)
            obtain ⟨ad294, e294, hx294_0⟩ := Kd.at_int (Kd.R_reads' HO290.out).2.2 2 p294 q294
            obtain rfl : ad292 = ad294 := (by injection e294)
            (try simp only [show (2 : Int).toNat = 2 from rfl, Nat.reduceMul, Nat.reduceEqDiff, Go.Addr.add, ↓reduceIte] at hx294_0)
            have qi294 : (2 < t288.length) = True := eq_true (by omega)
            (try rw [show ((2 : Int)).toNat = 2 from rfl] at hx294_0)
            replace p294 := eq_true p294
            replace q294 := eq_true q294
            refine start_ (n := 12) (S := fun w' => w'.cell? ad292 = some (.int .i64 (rd t288 0)) ∧ w'.cell? ⟨ad292.block, ad292.off + 1, none⟩ = some (.int .i64 (rd t288 1)) ∧ w'.cell? ⟨ad292.block, ad292.off + 2, none⟩ = some (.int .i64 (rd t288 2))) (ds := []) #[false, false, false, false, false, false, false, false, false, false, false, false] (by kernel_rfl) rfl rfl ⟨hx292_0, hx293_0, hx294_0⟩ (fun hHeld => ?_); refine with_tabW inode_Take.tab3 inode_Take.bits3 (fun HT_ HW_ => ?_)
            generalize w13.drew = w14 at HO287 HO290 BK284 HB hx292_0 hx293_0 hx294_0 hHeld ⊢
            refine pure_ (i := 0) (N := some 16) (v := ?_) (a' := ?_) #[true, false, false, false, false, false, false, false, false, false, false, false] rfl rfl (any_of HT_.out (by kernel_rfl)) (fun _ _ _ h => h) (Or.inl ⟨by rfl, ?_⟩) ?_ ?_
            rotate_left
            · intro w'
              go_simp
              with_reducible rfl
            rotate_left
            · simp only [Act.put, List.setIfInBounds_toArray, List.set_cons_zero, List.set_cons_succ, i64_w, i32_w]
              rfl
            refine pure_ (i := 1) (N := some 17) (v := ?_) (a' := ?_) #[true, true, false, false, false, false, false, false, false, false, false, false] rfl rfl (any_of HT_.out (by kernel_rfl)) (fun _ _ _ h => h) (Or.inl ⟨by rfl, ?_⟩) ?_ ?_
            rotate_left
            · intro w'
              go_simp
              with_reducible rfl
            rotate_left
            · simp only [Act.put, List.setIfInBounds_toArray, List.set_cons_zero, List.set_cons_succ, i64_w, i32_w]
              rfl
            refine pure_ (i := 3) (N := some 19) (v := ?_) (a' := ?_) #[true, true, false, true, false, false, false, false, false, false, false, false] rfl rfl (any_of HT_.out (by kernel_rfl)) (fun _ _ _ h => h) (Or.inl ⟨by rfl, ?_⟩) ?_ ?_
            rotate_left
            · intro w'
              go_simp
              with_reducible rfl
            rotate_left
            · simp only [Act.put, List.setIfInBounds_toArray, List.set_cons_zero, List.set_cons_succ, i64_w, i32_w]
              rfl
            refine pure_ (i := 4) (N := some 20) (v := ?_) (a' := ?_) #[true, true, false, true, true, false, false, false, false, false, false, false] rfl rfl (any_of HT_.out (by kernel_rfl)) (fun _ _ _ h => h) (Or.inl ⟨by rfl, ?_⟩) ?_ ?_
            rotate_left
            · intro w'
              go_simp
              with_reducible rfl
            rotate_left
            · simp only [Act.put, List.setIfInBounds_toArray, List.set_cons_zero, List.set_cons_succ, i64_w, i32_w]
              rfl
            refine pure_ (i := 6) (N := some 22) (v := ?_) (a' := ?_) #[true, true, false, true, true, false, true, false, false, false, false, false] rfl rfl (any_of HT_.out (by kernel_rfl)) (fun _ _ _ h => h) (Or.inl ⟨by rfl, ?_⟩) ?_ ?_
            rotate_left
            · intro w'
              go_simp
              with_reducible rfl
            rotate_left
            · simp only [Act.put, List.setIfInBounds_toArray, List.set_cons_zero, List.set_cons_succ, i64_w, i32_w]
              rfl
            refine pure_ (i := 7) (N := some 23) (v := ?_) (a' := ?_) #[true, true, false, true, true, false, true, true, false, false, false, false] rfl rfl (any_of HT_.out (by kernel_rfl)) (fun _ _ _ h => h) (Or.inl ⟨by rfl, ?_⟩) ?_ ?_
            rotate_left
            · intro w'
              go_simp
              with_reducible rfl
            rotate_left
            · simp only [Act.put, List.setIfInBounds_toArray, List.set_cons_zero, List.set_cons_succ, i64_w, i32_w]
              rfl
            refine take_ (i := 2) (N := some 18) (v := ?_) (a' := ?_) #[true, true, true, true, true, false, true, true, false, false, false, false] rfl rfl (take_ofW HT_.out HW_.out (by kernel_rfl)) (fun _ _ _ h => h) (Or.inl ⟨by rfl, ?_⟩) hHeld ?_ ?_
            rotate_left
            · rintro w' ⟨s0, s1, s2⟩
              go_simp
              with_reducible rfl
            rotate_left
            · simp only [Act.put, List.setIfInBounds_toArray, List.set_cons_zero, List.set_cons_succ, i64_w, i32_w]
              rfl
            refine take_ (i := 5) (N := some 21) (v := ?_) (a' := ?_) #[true, true, true, true, true, true, true, true, false, false, false, false] rfl rfl (take_ofW HT_.out HW_.out (by kernel_rfl)) (fun _ _ _ h => h) (Or.inl ⟨by rfl, ?_⟩) hHeld ?_ ?_
            rotate_left
            · rintro w' ⟨s0, s1, s2⟩
              go_simp
              with_reducible rfl
            rotate_left
            · simp only [Act.put, List.setIfInBounds_toArray, List.set_cons_zero, List.set_cons_succ, i64_w, i32_w]
              rfl
            refine take_ (i := 8) (N := some 24) (v := ?_) (a' := ?_) #[true, true, true, true, true, true, true, true, true, false, false, false] rfl rfl (take_ofW HT_.out HW_.out (by kernel_rfl)) (fun _ _ _ h => h) (Or.inl ⟨by rfl, ?_⟩) hHeld ?_ ?_
            rotate_left
            · rintro w' ⟨s0, s1, s2⟩
              go_simp
              with_reducible rfl
            rotate_left
            · simp only [Act.put, List.setIfInBounds_toArray, List.set_cons_zero, List.set_cons_succ, i64_w, i32_w]
              rfl
            refine pure_ (i := 9) (N := some 25) (v := ?_) (a' := ?_) #[true, true, true, true, true, true, true, true, true, true, false, false] rfl rfl (any_of HT_.out (by kernel_rfl)) (fun _ _ _ h => h) (Or.inl ⟨by rfl, ?_⟩) ?_ ?_
            rotate_left
            · intro w'
              go_simp
              with_reducible rfl
            rotate_left
            · simp only [Act.put, List.setIfInBounds_toArray, List.set_cons_zero, List.set_cons_succ, i64_w, i32_w]
              rfl
            refine one_ (i := 10) (N := some 6) #[true, true, true, true, true, true, true, true, true, true, true, false] rfl rfl (one_of HT_.out (by kernel_rfl)) (by decide) (fun K hK => ?_)
            refine box_step ?hg (N := 6) ?hd (cs := #[.int .i64 0, .int .i64 0, .int .i64 0]) (t := 23) ?hr ?_; (case hd => rfl); (case hg => rfl); (case hr => first | (go_simp; done) | (go_simp; rfl))
            intro gb295 hg w16 hbox hb
            have HS0_ := (hb.cell (World.block_lt_of_cell? _ _ (hHeld.1))).trans (hHeld.1)
            have HS1_ := (hb.cell (World.block_lt_of_cell? _ _ (hHeld.2.1))).trans (hHeld.2.1)
            have HS2_ := (hb.cell (World.block_lt_of_cell? _ _ (hHeld.2.2))).trans (hHeld.2.2)
            have n0_ := Aside0.mk (Kd.R_below (by (with_reducible repeat (first | apply Kd.R_alloc | apply Kd.R_drewN | apply Kd.R_drew)); exact HO287.out) hb)
            have n1_ := Aside0.mk (Kd.R_below (by (with_reducible repeat (first | apply Kd.R_alloc | apply Kd.R_drewN | apply Kd.R_drew)); exact HO290.out) hb)
            have n2_ := Aside0.mk (blk_below (g := gb284) (o := .cells #[.int .i64 0, .int .i64 0, .int .i64 0] 23 (0, 0)) (by (with_reducible repeat (first | refine blk_drewN ?_ _ | refine blk_drew ?_ | refine blk_alloc ?_ _)); exact BK284.out) hb)
            have n3_ := Aside0.mk (below_step (by repeat (first | (with_reducible first | exact HB.out | apply below_alloc | apply pw_below_drewN | apply below_drew1 | refine below_set ?_ GE284.out) | exact HB.out)) hb)
            have n4_ := Aside0.mk (hbox)
            have n5_ := Aside0.mk ((by rw [hg]; exact (below_size (by repeat (first | (with_reducible first | exact HB.out | apply below_alloc | apply pw_below_drewN | apply below_drew1 | refine below_set ?_ GE284.out) | exact HB.out))) : w.heap.size ≤ gb295))
            have n6_ := Aside0.mk ((by rw [hg]; exact (below_size (by repeat (first | (with_reducible first | exact HB.out | apply below_alloc | apply pw_below_drewN | apply below_drew1 | refine below_set ?_ GE284.out) | exact HB.out))) : w.heap.size ≤ gb295))
            have n7_ := Aside0.mk ((by rw [hg]; exact Nat.ne_of_lt (blk_lt (g := gb284) (o := .cells #[.int .i64 0, .int .i64 0, .int .i64 0] 23 (0, 0)) (by (with_reducible repeat (first | refine blk_drewN ?_ _ | refine blk_drew ?_ | refine blk_alloc ?_ _)); exact BK284.out)) : gb284 ≠ gb295))
            have n8_ := Aside0.mk ((by rw [hg]; exact Nat.ne_of_gt (blk_lt (g := gb284) (o := .cells #[.int .i64 0, .int .i64 0, .int .i64 0] 23 (0, 0)) (by (with_reducible repeat (first | refine blk_drewN ?_ _ | refine blk_drew ?_ | refine blk_alloc ?_ _)); exact BK284.out)) : gb295 ≠ gb284))
            clear HO287
            clear HO290
            clear BK284
            clear HB
            have HO287 := n0_
            have HO290 := n1_
            have BK284 := n2_
            have HB := n3_
            have BK295 := n4_
            have GW295 := n5_
            have GE295 := n6_
            have NB284_295 := n7_
            have NB295_284 := n8_
            clear n0_ n1_ n2_ n3_ n4_ n5_ n6_ n7_ n8_
            clear hb hbox hg
            refine hK.out _ _ ⟨HS0_, HS1_, HS2_⟩ (fun hHeld => ?_)
            clear hK K
            refine norm_ (a' := ?_) ?_ ?_
            rotate_left
            · show Act.put _ (some 6) _ = _
              simp only [Act.put, List.setIfInBounds_toArray, List.set_cons_zero, List.set_cons_succ, i64_w, i32_w]
              rfl
            refine one_ (i := 11) (N := none) #[true, true, true, true, true, true, true, true, true, true, true, true] rfl rfl (one_of HT_.out (by kernel_rfl)) (by decide) (fun K hK => ?_)
            have hs17 : w16.cell? ⟨gb295, 0, none⟩ = some (.int .i64 0) := (blk_cell BK295.out 0).trans rfl
            have hfs17 := blk_frozen BK295.out 0
            have hns17_0 := NB284_295.out
            have hms17_0 := NB295_284.out
            have hs18 : w16.cell? ⟨gb295, 1, none⟩ = some (.int .i64 0) := (blk_cell BK295.out 1).trans rfl
            have hfs18 := blk_frozen BK295.out 1
            have hns18_0 := NB284_295.out
            have hms18_0 := NB295_284.out
            have hs19 : w16.cell? ⟨gb295, 2, none⟩ = some (.int .i64 0) := (blk_cell BK295.out 2).trans rfl
            have hfs19 := blk_frozen BK295.out 2
            have hns19_0 := NB284_295.out
            have hms19_0 := NB295_284.out
            refine skip_ (w1 := ?_) (by rfl) rfl ?_ ?_
            rotate_left
            · go_simp
              rfl
            refine hK.out _ _ ⟨((cell_far (p := ⟨gb295, _, none⟩) (by first | exact Kd.own_blk (Kd.R_ne HO290.out BK295.out (by decide)) | (rw [add_block]; exact Kd.own_blk (Kd.R_ne HO290.out BK295.out (by decide))) | (show (Addr.add _ _).block ≠ _; rw [add_block]; exact Kd.own_blk (Kd.R_ne HO290.out BK295.out (by decide))) | (dsimp only; exact Kd.own_blk (Kd.R_ne HO290.out BK295.out (by decide)))) _).trans (((cell_far (p := ⟨gb295, _, none⟩) (by first | exact Kd.own_blk (Kd.R_ne HO290.out BK295.out (by decide)) | (rw [add_block]; exact Kd.own_blk (Kd.R_ne HO290.out BK295.out (by decide))) | (show (Addr.add _ _).block ≠ _; rw [add_block]; exact Kd.own_blk (Kd.R_ne HO290.out BK295.out (by decide))) | (dsimp only; exact Kd.own_blk (Kd.R_ne HO290.out BK295.out (by decide)))) _).trans (((cell_far (p := ⟨gb295, _, none⟩) (by first | exact Kd.own_blk (Kd.R_ne HO290.out BK295.out (by decide)) | (rw [add_block]; exact Kd.own_blk (Kd.R_ne HO290.out BK295.out (by decide))) | (show (Addr.add _ _).block ≠ _; rw [add_block]; exact Kd.own_blk (Kd.R_ne HO290.out BK295.out (by decide))) | (dsimp only; exact Kd.own_blk (Kd.R_ne HO290.out BK295.out (by decide)))) _).trans (hHeld.1)))))), ((cell_far (p := ⟨gb295, _, none⟩) (by first | exact Kd.own_blk (Kd.R_ne HO290.out BK295.out (by decide)) | (rw [add_block]; exact Kd.own_blk (Kd.R_ne HO290.out BK295.out (by decide))) | (show (Addr.add _ _).block ≠ _; rw [add_block]; exact Kd.own_blk (Kd.R_ne HO290.out BK295.out (by decide))) | (dsimp only; exact Kd.own_blk (Kd.R_ne HO290.out BK295.out (by decide)))) _).trans (((cell_far (p := ⟨gb295, _, none⟩) (by first | exact Kd.own_blk (Kd.R_ne HO290.out BK295.out (by decide)) | (rw [add_block]; exact Kd.own_blk (Kd.R_ne HO290.out BK295.out (by decide))) | (show (Addr.add _ _).block ≠ _; rw [add_block]; exact Kd.own_blk (Kd.R_ne HO290.out BK295.out (by decide))) | (dsimp only; exact Kd.own_blk (Kd.R_ne HO290.out BK295.out (by decide)))) _).trans (((cell_far (p := ⟨gb295, _, none⟩) (by first | exact Kd.own_blk (Kd.R_ne HO290.out BK295.out (by decide)) | (rw [add_block]; exact Kd.own_blk (Kd.R_ne HO290.out BK295.out (by decide))) | (show (Addr.add _ _).block ≠ _; rw [add_block]; exact Kd.own_blk (Kd.R_ne HO290.out BK295.out (by decide))) | (dsimp only; exact Kd.own_blk (Kd.R_ne HO290.out BK295.out (by decide)))) _).trans (hHeld.2.1)))))), ((cell_far (p := ⟨gb295, _, none⟩) (by first | exact Kd.own_blk (Kd.R_ne HO290.out BK295.out (by decide)) | (rw [add_block]; exact Kd.own_blk (Kd.R_ne HO290.out BK295.out (by decide))) | (show (Addr.add _ _).block ≠ _; rw [add_block]; exact Kd.own_blk (Kd.R_ne HO290.out BK295.out (by decide))) | (dsimp only; exact Kd.own_blk (Kd.R_ne HO290.out BK295.out (by decide)))) _).trans (((cell_far (p := ⟨gb295, _, none⟩) (by first | exact Kd.own_blk (Kd.R_ne HO290.out BK295.out (by decide)) | (rw [add_block]; exact Kd.own_blk (Kd.R_ne HO290.out BK295.out (by decide))) | (show (Addr.add _ _).block ≠ _; rw [add_block]; exact Kd.own_blk (Kd.R_ne HO290.out BK295.out (by decide))) | (dsimp only; exact Kd.own_blk (Kd.R_ne HO290.out BK295.out (by decide)))) _).trans (((cell_far (p := ⟨gb295, _, none⟩) (by first | exact Kd.own_blk (Kd.R_ne HO290.out BK295.out (by decide)) | (rw [add_block]; exact Kd.own_blk (Kd.R_ne HO290.out BK295.out (by decide))) | (show (Addr.add _ _).block ≠ _; rw [add_block]; exact Kd.own_blk (Kd.R_ne HO290.out BK295.out (by decide))) | (dsimp only; exact Kd.own_blk (Kd.R_ne HO290.out BK295.out (by decide)))) _).trans (hHeld.2.2))))))⟩ (fun hHeld => ?_)
            clear hK K
            refine done_ (done_of HT_.out (by kernel_rfl)) ?_
            have hnb20 := NB295_284.out
            have hnc20 := NB284_295.out
            have hcz21_0 : w16.cell? ⟨gb295, 0, none⟩ = some (.int .i64 0) := (blk_cell BK295.out 0).trans rfl
            have hcz21_1 : w16.cell? ⟨gb295, 1, none⟩ = some (.int .i64 0) := (blk_cell BK295.out 1).trans rfl
            have hcz21_2 : w16.cell? ⟨gb295, 2, none⟩ = some (.int .i64 0) := (blk_cell BK295.out 2).trans rfl
            have hfz21_0 := blk_frozen BK295.out 0
            have hfz21_1 := blk_frozen BK295.out 1
            have hfz21_2 := blk_frozen BK295.out 2
            try go_wp2_with (first | ((with_reducible refine gate_callee (f := 10) rfl ?_); refine goesL_ (some 28) rfl rfl Try.func10 (by kernel_rfl) rfl #[.agg #[.int .i64 (rd t288 0), .int .i64 (rd t288 1), .int .i64 (rd t288 2)]] rfl (by (try simp only [List.map_toArray, List.map_cons, List.map_nil]); first | done | rfl | (simp only [List.length_drop, List.length_take]; rfl)) ?_; (with_reducible refine (inode_Put.calls k (rd t288 0) (rd t288 1) (rd t288 2) t296 t299 _ A7.out).mono ?_); rintro e w22 ⟨v297, rfl, ho0, hb⟩; refine ⟨_, rfl, ?_⟩; have n0_ := Aside0.mk (Kd.R_below (by (with_reducible repeat (first | apply Kd.R_alloc | apply Kd.R_drewN | apply Kd.R_drew)); exact (Kd.R_mono (Kd.R_far (p := ⟨gb295, 2, none⟩) (Kd.R_far (p := ⟨gb295, 1, none⟩) (Kd.R_far (p := ⟨gb295, 0, none⟩) (Kd.R_types HO287.out BK295.out (by decide)) (fun _ hk => hk.2) (.int .i64 (rd t288 0))) (fun _ hk => hk.2) (.int .i64 (rd t288 1))) (fun _ hk => hk.2) (.int .i64 (rd t288 2))) (fun _ h_ => h_.1))) hb); have n1_ := Aside0.mk (Kd.R_below (by (with_reducible repeat (first | apply Kd.R_alloc | apply Kd.R_drewN | apply Kd.R_drew)); exact (Kd.R_mono (Kd.R_far (p := ⟨gb295, 2, none⟩) (Kd.R_far (p := ⟨gb295, 1, none⟩) (Kd.R_far (p := ⟨gb295, 0, none⟩) (Kd.R_types HO290.out BK295.out (by decide)) (fun _ hk => hk.2) (.int .i64 (rd t288 0))) (fun _ hk => hk.2) (.int .i64 (rd t288 1))) (fun _ hk => hk.2) (.int .i64 (rd t288 2))) (fun _ h_ => h_.1))) hb); have n2_ := Aside0.mk (Kd.V_lower (Kd.V_mono (ok' := fun k_ => some k_ ≠ (.slice Ao12 y285.length co12 : Value).ownBlock ∧ some k_ ≠ (.slice (some ad292) t288.length co15 : Value).ownBlock ∧ k_ ≠ gb284 ∧ k_ ≠ gb295) ho0 (fun k_ hk_ => ⟨(Kd.fresh' (Kd.R_lt (by (with_reducible repeat (first | apply Kd.R_alloc | apply Kd.R_drewN | apply Kd.R_drew)); exact (Kd.R_mono (Kd.R_far (p := ⟨gb295, 2, none⟩) (Kd.R_far (p := ⟨gb295, 1, none⟩) (Kd.R_far (p := ⟨gb295, 0, none⟩) (Kd.R_types HO287.out BK295.out (by decide)) (fun _ hk => hk.2) (.int .i64 (rd t288 0))) (fun _ hk => hk.2) (.int .i64 (rd t288 1))) (fun _ hk => hk.2) (.int .i64 (rd t288 2))) (fun _ h_ => h_.1)))) k_ hk_), (Kd.fresh' (Kd.R_lt (by (with_reducible repeat (first | apply Kd.R_alloc | apply Kd.R_drewN | apply Kd.R_drew)); exact (Kd.R_mono (Kd.R_far (p := ⟨gb295, 2, none⟩) (Kd.R_far (p := ⟨gb295, 1, none⟩) (Kd.R_far (p := ⟨gb295, 0, none⟩) (Kd.R_types HO290.out BK295.out (by decide)) (fun _ hk => hk.2) (.int .i64 (rd t288 0))) (fun _ hk => hk.2) (.int .i64 (rd t288 1))) (fun _ hk => hk.2) (.int .i64 (rd t288 2))) (fun _ h_ => h_.1)))) k_ hk_), (Kd.freshB (g := gb284) (o := .cells #[.int .i64 0, .int .i64 0, .int .i64 0] 23 (0, 0)) (by (with_reducible repeat (first | refine blk_drewN ?_ _ | refine blk_drew ?_ | refine blk_alloc ?_ _)); refine blk_far ?_ NB284_295.out _; (with_reducible repeat (first | refine blk_drewN ?_ _ | refine blk_drew ?_ | refine blk_alloc ?_ _)); refine blk_far ?_ NB284_295.out _; (with_reducible repeat (first | refine blk_drewN ?_ _ | refine blk_drew ?_ | refine blk_alloc ?_ _)); refine blk_far ?_ NB284_295.out _; (with_reducible repeat (first | refine blk_drewN ?_ _ | refine blk_drew ?_ | refine blk_alloc ?_ _)); exact BK284.out) k_ hk_), (Kd.freshB (g := gb295) (o := .cells #[.int .i64 (rd t288 0), .int .i64 (rd t288 1), .int .i64 (rd t288 2)] 23 (0, 0)) (by (with_reducible repeat (first | refine blk_drewN ?_ _ | refine blk_drew ?_ | refine blk_alloc ?_ _)); refine blk_put (cs := #[.int .i64 (rd t288 0), .int .i64 (rd t288 1), .int .i64 0]) ?_ 2 _ rfl; (with_reducible repeat (first | refine blk_drewN ?_ _ | refine blk_drew ?_ | refine blk_alloc ?_ _)); refine blk_put (cs := #[.int .i64 (rd t288 0), .int .i64 0, .int .i64 0]) ?_ 1 _ rfl; (with_reducible repeat (first | refine blk_drewN ?_ _ | refine blk_drew ?_ | refine blk_alloc ?_ _)); refine blk_put (cs := #[.int .i64 0, .int .i64 0, .int .i64 0]) ?_ 0 _ rfl; (with_reducible repeat (first | refine blk_drewN ?_ _ | refine blk_drew ?_ | refine blk_alloc ?_ _)); exact BK295.out) k_ hk_)⟩)) (below_size (by repeat (first | (with_reducible first | exact HB.out | apply below_alloc | apply pw_below_drewN | apply below_drew1 | refine below_set ?_ GE284.out | refine below_set ?_ GE295.out) | exact HB.out)))); have n3_ := Aside0.mk (blk_below (g := gb284) (o := .cells #[.int .i64 0, .int .i64 0, .int .i64 0] 23 (0, 0)) (by (with_reducible repeat (first | refine blk_drewN ?_ _ | refine blk_drew ?_ | refine blk_alloc ?_ _)); refine blk_far ?_ NB284_295.out _; (with_reducible repeat (first | refine blk_drewN ?_ _ | refine blk_drew ?_ | refine blk_alloc ?_ _)); refine blk_far ?_ NB284_295.out _; (with_reducible repeat (first | refine blk_drewN ?_ _ | refine blk_drew ?_ | refine blk_alloc ?_ _)); refine blk_far ?_ NB284_295.out _; (with_reducible repeat (first | refine blk_drewN ?_ _ | refine blk_drew ?_ | refine blk_alloc ?_ _)); exact BK284.out) hb); have n4_ := Aside0.mk (blk_below (g := gb295) (o := .cells #[.int .i64 (rd t288 0), .int .i64 (rd t288 1), .int .i64 (rd t288 2)] 23 (0, 0)) (by (with_reducible repeat (first | refine blk_drewN ?_ _ | refine blk_drew ?_ | refine blk_alloc ?_ _)); refine blk_put (cs := #[.int .i64 (rd t288 0), .int .i64 (rd t288 1), .int .i64 0]) ?_ 2 _ rfl; (with_reducible repeat (first | refine blk_drewN ?_ _ | refine blk_drew ?_ | refine blk_alloc ?_ _)); refine blk_put (cs := #[.int .i64 (rd t288 0), .int .i64 0, .int .i64 0]) ?_ 1 _ rfl; (with_reducible repeat (first | refine blk_drewN ?_ _ | refine blk_drew ?_ | refine blk_alloc ?_ _)); refine blk_put (cs := #[.int .i64 0, .int .i64 0, .int .i64 0]) ?_ 0 _ rfl; (with_reducible repeat (first | refine blk_drewN ?_ _ | refine blk_drew ?_ | refine blk_alloc ?_ _)); exact BK295.out) hb); have n5_ := Aside0.mk (below_step (by repeat (first | (with_reducible first | exact HB.out | apply below_alloc | apply pw_below_drewN | apply below_drew1 | refine below_set ?_ GE284.out | refine below_set ?_ GE295.out) | exact HB.out)) hb); clear HO287; clear HO290; clear BK284; clear BK295; clear HB; have HO287 := n0_; have HO290 := n1_; have HO298 := n2_; have BK284 := n3_; have BK295 := n4_; have HB := n5_; clear n0_ n1_ n2_ n3_ n4_ n5_; (try clear hb); (try clear hb2); (try clear hk); (try clear hi); (try clear ho0); have hcz23_0 : w22.cell? ⟨gb295, 0, none⟩ = some (.int .i64 (rd t288 0)) := (blk_cell BK295.out 0).trans rfl; have hcz23_1 : w22.cell? ⟨gb295, 1, none⟩ = some (.int .i64 (rd t288 1)) := (blk_cell BK295.out 1).trans rfl; have hcz23_2 : w22.cell? ⟨gb295, 2, none⟩ = some (.int .i64 (rd t288 2)) := (blk_cell BK295.out 2).trans rfl; have hfz23_0 := blk_frozen BK295.out 0; have hfz23_1 := blk_frozen BK295.out 1; have hfz23_2 := blk_frozen BK295.out 2; have hcz24_0 : w22.cell? ⟨gb284, 0, none⟩ = some (.int .i64 0) := (blk_cell BK284.out 0).trans rfl; have hcz24_1 : w22.cell? ⟨gb284, 1, none⟩ = some (.int .i64 0) := (blk_cell BK284.out 1).trans rfl; have hcz24_2 : w22.cell? ⟨gb284, 2, none⟩ = some (.int .i64 0) := (blk_cell BK284.out 2).trans rfl; have hfz24_0 := blk_frozen BK284.out 0; have hfz24_1 := blk_frozen BK284.out 1; have hfz24_2 := blk_frozen BK284.out 2))
            refine bodyPost_ret (results_ct rfl _ _ gb284 23 #[.int .i64 (rd t288 0), .int .i64 (rd t288 1), .int .i64 (rd t288 2)] (0, 0) _ rfl (by (with_reducible repeat (first | refine blk_drewN ?_ _ | refine blk_drew ?_ | refine blk_alloc ?_ _)); refine blk_put (cs := #[.int .i64 (rd t288 0), .int .i64 (rd t288 1), .int .i64 0]) ?_ 2 _ rfl; (with_reducible repeat (first | refine blk_drewN ?_ _ | refine blk_drew ?_ | refine blk_alloc ?_ _)); refine blk_put (cs := #[.int .i64 (rd t288 0), .int .i64 0, .int .i64 0]) ?_ 1 _ rfl; (with_reducible repeat (first | refine blk_drewN ?_ _ | refine blk_drew ?_ | refine blk_alloc ?_ _)); refine blk_put (cs := #[.int .i64 0, .int .i64 0, .int .i64 0]) ?_ 0 _ rfl; (with_reducible repeat (first | refine blk_drewN ?_ _ | refine blk_drew ?_ | refine blk_alloc ?_ _)); exact BK284.out) Try.underlying23 rfl (by kernel_rfl)) rfl ?_
            exact ⟨by first | rfl | (simp [errW_none, errW_some] <;> rfl) | (simp [*, errW_none, errW_some] <;> rfl), by repeat (first | (with_reducible first | exact HB.out | apply below_alloc | apply pw_below_drewN | apply below_drew1 | refine below_set ?_ GE284.out | refine below_set ?_ GE295.out) | exact HB.out)⟩
          · rw [if_neg c8] at H
            have c8b0 : (t299 == 0) = false := beq_eq_false_iff_ne.mpr c8
            have c8b1 : (t299 != 0) = true := bne_iff_ne.mpr c8
            simp only [Option.some.injEq, Prod.mk.injEq] at H
            obtain ⟨rfl, rfl, rfl, rfl⟩ := H
            go_enter Try.func20, Try.ntmps20
            try go_wp2_with (first | ((with_reducible refine gate_dst (N := 2) rfl ?_); refine box_event ?hg (N := 2) ?hd (cs := #[.int .i64 0, .int .i64 0, .int .i64 0]) (t := 23) ?hr ?_; (case hd => rfl); (case hg => rfl); (case hr => first | (go_simp; done) | (go_simp; rfl)); intro gb284 hg w25 hbox hb; have n0_ := Aside0.mk (below_step (by repeat (first | (with_reducible first | exact HB.out | apply below_alloc | apply pw_below_drewN | apply below_drew1) | exact HB.out)) hb); have n1_ := Aside0.mk (hbox); have n2_ := Aside0.mk ((by rw [hg]; exact (below_size (by repeat (first | (with_reducible first | exact HB.out | apply below_alloc | apply pw_below_drewN | apply below_drew1) | exact HB.out))) : w.heap.size ≤ gb284)); have n3_ := Aside0.mk ((by rw [hg]; exact (below_size (by repeat (first | (with_reducible first | exact HB.out | apply below_alloc | apply pw_below_drewN | apply below_drew1) | exact HB.out))) : w.heap.size ≤ gb284)); clear HB; have HB := n0_; have BK284 := n1_; have GW284 := n2_; have GE284 := n3_; clear n0_ n1_ n2_ n3_; clear hb hbox hg) | ((with_reducible refine gate_dst (N := 11) rfl ?_); refine Kd.R_lit (Kd.int .i64) _ 3 ?hg (N := 11) ?hd (xs := ([1, 2, 4] : List Int)) (inner := [.int .i64 1, .int .i64 2, .int .i64 4]) (ok := fun _ => True) (okp := fun _ => True) ?hr ?hp (fun _ hk => hk) trivial (Below.refl _ _) (Nat.le_refl _) (by simp) ?_; (case hd => rfl); (case hg => rfl); (case hr => first | (go_simp; done) | (go_simp; rfl)); (case hp => exact (Reps.one (show Kd.M (Kd.int .i64) _ _ _ 1 [.int .i64 1] from rfl) (Reps.one (show Kd.M (Kd.int .i64) _ _ _ 2 [.int .i64 2] from rfl) (Reps.one (show Kd.M (Kd.int .i64) _ _ _ 4 [.int .i64 4] from rfl) (Reps.none _ _))))); intro v286 w26 ho27 hb hg_ hnew_; clear hg_ hnew_; (first | rw [← Ny285.out] at ho27 | (simp only [Int.reduceToNat] at ho27; rw [← Ny285.out] at ho27)); have n0_ := Aside0.mk (Kd.R_lower ho27 (below_size (by repeat (first | (with_reducible first | exact HB.out | apply below_alloc | apply pw_below_drewN | apply below_drew1 | refine below_set ?_ GE284.out) | exact HB.out)))); have n1_ := Aside0.mk (blk_below (g := gb284) (o := .cells #[.int .i64 0, .int .i64 0, .int .i64 0] 23 (0, 0)) (by (with_reducible repeat (first | refine blk_drewN ?_ _ | refine blk_drew ?_ | refine blk_alloc ?_ _)); exact BK284.out) hb); have n2_ := Aside0.mk (below_step (by repeat (first | (with_reducible first | exact HB.out | apply below_alloc | apply pw_below_drewN | apply below_drew1 | refine below_set ?_ GE284.out) | exact HB.out)) hb); clear BK284; clear HB; have HO287 := n0_; have BK284 := n1_; have HB := n2_; clear n0_ n1_ n2_; clear hb ho27; obtain ⟨Ao28, co28, eo28⟩ := Kd.R_slice HO287.out; subst eo28) | ((with_reducible refine gate_callee (f := 31) rfl ?_); refine goesL_ (some 12) rfl rfl Try.func31 (by kernel_rfl) rfl #[.slice A0 l0.length c0, .slice Ao28 y285.length co28] rfl (by (try simp only [List.map_toArray, List.map_cons, List.map_nil]); first | done | rfl | (simp only [List.length_drop, List.length_take]; rfl)) ?_; (with_reducible refine (inode_take.calls k (fun k_ => k_ < w.heap.size) _ _ l0 _ _ y285 t288 true _ ?side1 ?side2 ?side3 A2.out).mono ?_); (case side1 => exact Kd.V_mk HC0.out (Kd.F_below (Kd.C_F (Kd.heap_int .u8) HR0.out) (by repeat (first | (with_reducible first | exact HB.out | apply below_alloc | apply pw_below_drewN | apply below_drew1 | refine below_set ?_ GE284.out) | exact HB.out)))); (case side2 => repeat (first | exact (Kd.R_reads' HO287.out).2.2 | (with_reducible refine Kd.C_alloc ?_ _) | (with_reducible refine Kd.C_drewN ?_ _) | (with_reducible refine Kd.C_drew ?_))); (case side3 => exact (Kd.R_reads' HO287.out).2.1); rintro e w29 ⟨v289, rfl, ho0, hb⟩; refine ⟨_, rfl, ?_⟩; have n0_ := Aside0.mk (Kd.R_elder' (by (with_reducible repeat (first | apply Kd.R_alloc | apply Kd.R_drewN | apply Kd.R_drew)); exact HO287.out) (Kd.R_base ho0) hb); have n1_ := Aside0.mk (Kd.R_lower (Kd.R_new' (Kd.R_mono (ok' := fun k_ => True) ho0 (fun _ hk_ => trivial)) (Kd.R_lt (by (with_reducible repeat (first | apply Kd.R_alloc | apply Kd.R_drewN | apply Kd.R_drew)); exact HO287.out))) (below_size (by repeat (first | (with_reducible first | exact HB.out | apply below_alloc | apply pw_below_drewN | apply below_drew1 | refine below_set ?_ GE284.out) | exact HB.out)))); have n2_ := Aside0.mk (blk_below (g := gb284) (o := .cells #[.int .i64 0, .int .i64 0, .int .i64 0] 23 (0, 0)) (by (with_reducible repeat (first | refine blk_drewN ?_ _ | refine blk_drew ?_ | refine blk_alloc ?_ _)); exact BK284.out) hb); have n3_ := Aside0.mk (below_step (by repeat (first | (with_reducible first | exact HB.out | apply below_alloc | apply pw_below_drewN | apply below_drew1 | refine below_set ?_ GE284.out) | exact HB.out)) hb); clear HO287; clear BK284; clear HB; have HO287 := n0_; have HO290 := n1_; have BK284 := n2_; have HB := n3_; clear n0_ n1_ n2_ n3_; (try clear hb); (try clear hb2); (try clear hk); (try clear hi); (try clear ho0)))
            have n0_ := Aside0.mk (Kd.R_drew HO287.out)
            have n1_ := Aside0.mk (Kd.R_drew HO290.out)
            have n2_ := Aside0.mk (blk_drew BK284.out)
            have n3_ := Aside0.mk (below_drew1 HB.out)
            clear HO287
            clear HO290
            clear BK284
            clear HB
            have HO287 := n0_
            have HO290 := n1_
            have BK284 := n2_
            have HB := n3_
            clear n0_ n1_ n2_ n3_
            obtain ⟨Ao31, co31, eo31⟩ := Kd.R_slice HO290.out
            (first | subst eo31 | (injection eo31 with f1_ f2_ f3_; have f4_ := f1_.symm; have f5_ := f3_.symm; clear f1_ f2_ f3_; subst f4_; subst f5_))
            have p292 : 0 ≤ (0 : Int) := (by omega)
            have q292 : 0 < (t288.length : Int) := of_decide_eq_true (by first | (with_reducible assumption) | assumption)
            obtain ⟨ad292, e292, hx292_0⟩ := Kd.at_int (Kd.R_reads' HO290.out).2.2 0 p292 q292
            cases e292
            have qi292 : (0 < t288.length) = True := eq_true (by omega)
            (try rw [show ((0 : Int)).toNat = 0 from rfl] at hx292_0)
            (try rw [Addr.add_zero'] at hx292_0)
            replace p292 := eq_true p292
            replace q292 := eq_true q292
            have p293 : 0 ≤ (1 : Int) := (by omega)
            have q293 : 1 < (t288.length : Int) := of_decide_eq_true (by first | (with_reducible assumption) | assumption)
            obtain ⟨ad293, e293, hx293_0⟩ := Kd.at_int (Kd.R_reads' HO290.out).2.2 1 p293 q293
            obtain rfl : ad292 = ad293 := (by injection e293)
            (try simp only [show (1 : Int).toNat = 1 from rfl, Nat.reduceMul, Nat.reduceEqDiff, Go.Addr.add, ↓reduceIte] at hx293_0)
            have qi293 : (1 < t288.length) = True := eq_true (by omega)
            (try rw [show ((1 : Int)).toNat = 1 from rfl] at hx293_0)
            replace p293 := eq_true p293
            replace q293 := eq_true q293
            have p294 : 0 ≤ (2 : Int) := (by omega)
            have q294 : 2 < (t288.length : Int) := of_decide_eq_true (by first | (with_reducible assumption) | assumption)
            obtain ⟨ad294, e294, hx294_0⟩ := Kd.at_int (Kd.R_reads' HO290.out).2.2 2 p294 q294
            obtain rfl : ad292 = ad294 := (by injection e294)
            (try simp only [show (2 : Int).toNat = 2 from rfl, Nat.reduceMul, Nat.reduceEqDiff, Go.Addr.add, ↓reduceIte] at hx294_0)
            have qi294 : (2 < t288.length) = True := eq_true (by omega)
            (try rw [show ((2 : Int)).toNat = 2 from rfl] at hx294_0)
            replace p294 := eq_true p294
            replace q294 := eq_true q294
            refine start_ (n := 12) (S := fun w' => w'.cell? ad292 = some (.int .i64 (rd t288 0)) ∧ w'.cell? ⟨ad292.block, ad292.off + 1, none⟩ = some (.int .i64 (rd t288 1)) ∧ w'.cell? ⟨ad292.block, ad292.off + 2, none⟩ = some (.int .i64 (rd t288 2))) (ds := []) #[false, false, false, false, false, false, false, false, false, false, false, false] (by kernel_rfl) rfl rfl ⟨hx292_0, hx293_0, hx294_0⟩ (fun hHeld => ?_); refine with_tabW inode_Take.tab3 inode_Take.bits3 (fun HT_ HW_ => ?_)
            generalize w29.drew = w30 at HO287 HO290 BK284 HB hx292_0 hx293_0 hx294_0 hHeld ⊢
            refine pure_ (i := 0) (N := some 16) (v := ?_) (a' := ?_) #[true, false, false, false, false, false, false, false, false, false, false, false] rfl rfl (any_of HT_.out (by kernel_rfl)) (fun _ _ _ h => h) (Or.inl ⟨by rfl, ?_⟩) ?_ ?_
            rotate_left
            · intro w'
              go_simp
              with_reducible rfl
            rotate_left
            · simp only [Act.put, List.setIfInBounds_toArray, List.set_cons_zero, List.set_cons_succ, i64_w, i32_w]
              rfl
            refine pure_ (i := 1) (N := some 17) (v := ?_) (a' := ?_) #[true, true, false, false, false, false, false, false, false, false, false, false] rfl rfl (any_of HT_.out (by kernel_rfl)) (fun _ _ _ h => h) (Or.inl ⟨by rfl, ?_⟩) ?_ ?_
            rotate_left
            · intro w'
              go_simp
              with_reducible rfl
            rotate_left
            · simp only [Act.put, List.setIfInBounds_toArray, List.set_cons_zero, List.set_cons_succ, i64_w, i32_w]
              rfl
            refine pure_ (i := 3) (N := some 19) (v := ?_) (a' := ?_) #[true, true, false, true, false, false, false, false, false, false, false, false] rfl rfl (any_of HT_.out (by kernel_rfl)) (fun _ _ _ h => h) (Or.inl ⟨by rfl, ?_⟩) ?_ ?_
            rotate_left
            · intro w'
              go_simp
              with_reducible rfl
            rotate_left
            · simp only [Act.put, List.setIfInBounds_toArray, List.set_cons_zero, List.set_cons_succ, i64_w, i32_w]
              rfl
            refine pure_ (i := 4) (N := some 20) (v := ?_) (a' := ?_) #[true, true, false, true, true, false, false, false, false, false, false, false] rfl rfl (any_of HT_.out (by kernel_rfl)) (fun _ _ _ h => h) (Or.inl ⟨by rfl, ?_⟩) ?_ ?_
            rotate_left
            · intro w'
              go_simp
              with_reducible rfl
            rotate_left
            · simp only [Act.put, List.setIfInBounds_toArray, List.set_cons_zero, List.set_cons_succ, i64_w, i32_w]
              rfl
            refine pure_ (i := 6) (N := some 22) (v := ?_) (a' := ?_) #[true, true, false, true, true, false, true, false, false, false, false, false] rfl rfl (any_of HT_.out (by kernel_rfl)) (fun _ _ _ h => h) (Or.inl ⟨by rfl, ?_⟩) ?_ ?_
            rotate_left
            · intro w'
              go_simp
              with_reducible rfl
            rotate_left
            · simp only [Act.put, List.setIfInBounds_toArray, List.set_cons_zero, List.set_cons_succ, i64_w, i32_w]
              rfl
            refine pure_ (i := 7) (N := some 23) (v := ?_) (a' := ?_) #[true, true, false, true, true, false, true, true, false, false, false, false] rfl rfl (any_of HT_.out (by kernel_rfl)) (fun _ _ _ h => h) (Or.inl ⟨by rfl, ?_⟩) ?_ ?_
            rotate_left
            · intro w'
              go_simp
              with_reducible rfl
            rotate_left
            · simp only [Act.put, List.setIfInBounds_toArray, List.set_cons_zero, List.set_cons_succ, i64_w, i32_w]
              rfl
            refine take_ (i := 2) (N := some 18) (v := ?_) (a' := ?_) #[true, true, true, true, true, false, true, true, false, false, false, false] rfl rfl (take_ofW HT_.out HW_.out (by kernel_rfl)) (fun _ _ _ h => h) (Or.inl ⟨by rfl, ?_⟩) hHeld ?_ ?_
            rotate_left
            · rintro w' ⟨s0, s1, s2⟩
              go_simp
              with_reducible rfl
            rotate_left
            · simp only [Act.put, List.setIfInBounds_toArray, List.set_cons_zero, List.set_cons_succ, i64_w, i32_w]
              rfl
            refine take_ (i := 5) (N := some 21) (v := ?_) (a' := ?_) #[true, true, true, true, true, true, true, true, false, false, false, false] rfl rfl (take_ofW HT_.out HW_.out (by kernel_rfl)) (fun _ _ _ h => h) (Or.inl ⟨by rfl, ?_⟩) hHeld ?_ ?_
            rotate_left
            · rintro w' ⟨s0, s1, s2⟩
              go_simp
              with_reducible rfl
            rotate_left
            · simp only [Act.put, List.setIfInBounds_toArray, List.set_cons_zero, List.set_cons_succ, i64_w, i32_w]
              rfl
            refine take_ (i := 8) (N := some 24) (v := ?_) (a' := ?_) #[true, true, true, true, true, true, true, true, true, false, false, false] rfl rfl (take_ofW HT_.out HW_.out (by kernel_rfl)) (fun _ _ _ h => h) (Or.inl ⟨by rfl, ?_⟩) hHeld ?_ ?_
            rotate_left
            · rintro w' ⟨s0, s1, s2⟩
              go_simp
              with_reducible rfl
            rotate_left
            · simp only [Act.put, List.setIfInBounds_toArray, List.set_cons_zero, List.set_cons_succ, i64_w, i32_w]
              rfl
            refine pure_ (i := 9) (N := some 25) (v := ?_) (a' := ?_) #[true, true, true, true, true, true, true, true, true, true, false, false] rfl rfl (any_of HT_.out (by kernel_rfl)) (fun _ _ _ h => h) (Or.inl ⟨by rfl, ?_⟩) ?_ ?_
            rotate_left
            · intro w'
              go_simp
              with_reducible rfl
            rotate_left
            · simp only [Act.put, List.setIfInBounds_toArray, List.set_cons_zero, List.set_cons_succ, i64_w, i32_w]
              rfl
            refine one_ (i := 10) (N := some 6) #[true, true, true, true, true, true, true, true, true, true, true, false] rfl rfl (one_of HT_.out (by kernel_rfl)) (by decide) (fun K hK => ?_)
            refine box_step ?hg (N := 6) ?hd (cs := #[.int .i64 0, .int .i64 0, .int .i64 0]) (t := 23) ?hr ?_; (case hd => rfl); (case hg => rfl); (case hr => first | (go_simp; done) | (go_simp; rfl))
            intro gb295 hg w32 hbox hb
            have HS0_ := (hb.cell (World.block_lt_of_cell? _ _ (hHeld.1))).trans (hHeld.1)
            have HS1_ := (hb.cell (World.block_lt_of_cell? _ _ (hHeld.2.1))).trans (hHeld.2.1)
            have HS2_ := (hb.cell (World.block_lt_of_cell? _ _ (hHeld.2.2))).trans (hHeld.2.2)
            have n0_ := Aside0.mk (Kd.R_below (by (with_reducible repeat (first | apply Kd.R_alloc | apply Kd.R_drewN | apply Kd.R_drew)); exact HO287.out) hb)
            have n1_ := Aside0.mk (Kd.R_below (by (with_reducible repeat (first | apply Kd.R_alloc | apply Kd.R_drewN | apply Kd.R_drew)); exact HO290.out) hb)
            have n2_ := Aside0.mk (blk_below (g := gb284) (o := .cells #[.int .i64 0, .int .i64 0, .int .i64 0] 23 (0, 0)) (by (with_reducible repeat (first | refine blk_drewN ?_ _ | refine blk_drew ?_ | refine blk_alloc ?_ _)); exact BK284.out) hb)
            have n3_ := Aside0.mk (below_step (by repeat (first | (with_reducible first | exact HB.out | apply below_alloc | apply pw_below_drewN | apply below_drew1 | refine below_set ?_ GE284.out) | exact HB.out)) hb)
            have n4_ := Aside0.mk (hbox)
            have n5_ := Aside0.mk ((by rw [hg]; exact (below_size (by repeat (first | (with_reducible first | exact HB.out | apply below_alloc | apply pw_below_drewN | apply below_drew1 | refine below_set ?_ GE284.out) | exact HB.out))) : w.heap.size ≤ gb295))
            have n6_ := Aside0.mk ((by rw [hg]; exact (below_size (by repeat (first | (with_reducible first | exact HB.out | apply below_alloc | apply pw_below_drewN | apply below_drew1 | refine below_set ?_ GE284.out) | exact HB.out))) : w.heap.size ≤ gb295))
            have n7_ := Aside0.mk ((by rw [hg]; exact Nat.ne_of_lt (blk_lt (g := gb284) (o := .cells #[.int .i64 0, .int .i64 0, .int .i64 0] 23 (0, 0)) (by (with_reducible repeat (first | refine blk_drewN ?_ _ | refine blk_drew ?_ | refine blk_alloc ?_ _)); exact BK284.out)) : gb284 ≠ gb295))
            have n8_ := Aside0.mk ((by rw [hg]; exact Nat.ne_of_gt (blk_lt (g := gb284) (o := .cells #[.int .i64 0, .int .i64 0, .int .i64 0] 23 (0, 0)) (by (with_reducible repeat (first | refine blk_drewN ?_ _ | refine blk_drew ?_ | refine blk_alloc ?_ _)); exact BK284.out)) : gb295 ≠ gb284))
            clear HO287
            clear HO290
            clear BK284
            clear HB
            have HO287 := n0_
            have HO290 := n1_
            have BK284 := n2_
            have HB := n3_
            have BK295 := n4_
            have GW295 := n5_
            have GE295 := n6_
            have NB284_295 := n7_
            have NB295_284 := n8_
            clear n0_ n1_ n2_ n3_ n4_ n5_ n6_ n7_ n8_
            clear hb hbox hg
            refine hK.out _ _ ⟨HS0_, HS1_, HS2_⟩ (fun hHeld => ?_)
            clear hK K
            refine norm_ (a' := ?_) ?_ ?_
            rotate_left
            · show Act.put _ (some 6) _ = _
              simp only [Act.put, List.setIfInBounds_toArray, List.set_cons_zero, List.set_cons_succ, i64_w, i32_w]
              rfl
            refine one_ (i := 11) (N := none) #[true, true, true, true, true, true, true, true, true, true, true, true] rfl rfl (one_of HT_.out (by kernel_rfl)) (by decide) (fun K hK => ?_)
            have hs33 : w32.cell? ⟨gb295, 0, none⟩ = some (.int .i64 0) := (blk_cell BK295.out 0).trans rfl
            have hfs33 := blk_frozen BK295.out 0
            have hns33_0 := NB284_295.out
            have hms33_0 := NB295_284.out
            have hs34 : w32.cell? ⟨gb295, 1, none⟩ = some (.int .i64 0) := (blk_cell BK295.out 1).trans rfl
            have hfs34 := blk_frozen BK295.out 1
            have hns34_0 := NB284_295.out
            have hms34_0 := NB295_284.out
            have hs35 : w32.cell? ⟨gb295, 2, none⟩ = some (.int .i64 0) := (blk_cell BK295.out 2).trans rfl
            have hfs35 := blk_frozen BK295.out 2
            have hns35_0 := NB284_295.out
            have hms35_0 := NB295_284.out
            refine skip_ (w1 := ?_) (by rfl) rfl ?_ ?_
            rotate_left
            · go_simp
              rfl
            refine hK.out _ _ ⟨((cell_far (p := ⟨gb295, _, none⟩) (by first | exact Kd.own_blk (Kd.R_ne HO290.out BK295.out (by decide)) | (rw [add_block]; exact Kd.own_blk (Kd.R_ne HO290.out BK295.out (by decide))) | (show (Addr.add _ _).block ≠ _; rw [add_block]; exact Kd.own_blk (Kd.R_ne HO290.out BK295.out (by decide))) | (dsimp only; exact Kd.own_blk (Kd.R_ne HO290.out BK295.out (by decide)))) _).trans (((cell_far (p := ⟨gb295, _, none⟩) (by first | exact Kd.own_blk (Kd.R_ne HO290.out BK295.out (by decide)) | (rw [add_block]; exact Kd.own_blk (Kd.R_ne HO290.out BK295.out (by decide))) | (show (Addr.add _ _).block ≠ _; rw [add_block]; exact Kd.own_blk (Kd.R_ne HO290.out BK295.out (by decide))) | (dsimp only; exact Kd.own_blk (Kd.R_ne HO290.out BK295.out (by decide)))) _).trans (((cell_far (p := ⟨gb295, _, none⟩) (by first | exact Kd.own_blk (Kd.R_ne HO290.out BK295.out (by decide)) | (rw [add_block]; exact Kd.own_blk (Kd.R_ne HO290.out BK295.out (by decide))) | (show (Addr.add _ _).block ≠ _; rw [add_block]; exact Kd.own_blk (Kd.R_ne HO290.out BK295.out (by decide))) | (dsimp only; exact Kd.own_blk (Kd.R_ne HO290.out BK295.out (by decide)))) _).trans (hHeld.1)))))), ((cell_far (p := ⟨gb295, _, none⟩) (by first | exact Kd.own_blk (Kd.R_ne HO290.out BK295.out (by decide)) | (rw [add_block]; exact Kd.own_blk (Kd.R_ne HO290.out BK295.out (by decide))) | (show (Addr.add _ _).block ≠ _; rw [add_block]; exact Kd.own_blk (Kd.R_ne HO290.out BK295.out (by decide))) | (dsimp only; exact Kd.own_blk (Kd.R_ne HO290.out BK295.out (by decide)))) _).trans (((cell_far (p := ⟨gb295, _, none⟩) (by first | exact Kd.own_blk (Kd.R_ne HO290.out BK295.out (by decide)) | (rw [add_block]; exact Kd.own_blk (Kd.R_ne HO290.out BK295.out (by decide))) | (show (Addr.add _ _).block ≠ _; rw [add_block]; exact Kd.own_blk (Kd.R_ne HO290.out BK295.out (by decide))) | (dsimp only; exact Kd.own_blk (Kd.R_ne HO290.out BK295.out (by decide)))) _).trans (((cell_far (p := ⟨gb295, _, none⟩) (by first | exact Kd.own_blk (Kd.R_ne HO290.out BK295.out (by decide)) | (rw [add_block]; exact Kd.own_blk (Kd.R_ne HO290.out BK295.out (by decide))) | (show (Addr.add _ _).block ≠ _; rw [add_block]; exact Kd.own_blk (Kd.R_ne HO290.out BK295.out (by decide))) | (dsimp only; exact Kd.own_blk (Kd.R_ne HO290.out BK295.out (by decide)))) _).trans (hHeld.2.1)))))), ((cell_far (p := ⟨gb295, _, none⟩) (by first | exact Kd.own_blk (Kd.R_ne HO290.out BK295.out (by decide)) | (rw [add_block]; exact Kd.own_blk (Kd.R_ne HO290.out BK295.out (by decide))) | (show (Addr.add _ _).block ≠ _; rw [add_block]; exact Kd.own_blk (Kd.R_ne HO290.out BK295.out (by decide))) | (dsimp only; exact Kd.own_blk (Kd.R_ne HO290.out BK295.out (by decide)))) _).trans (((cell_far (p := ⟨gb295, _, none⟩) (by first | exact Kd.own_blk (Kd.R_ne HO290.out BK295.out (by decide)) | (rw [add_block]; exact Kd.own_blk (Kd.R_ne HO290.out BK295.out (by decide))) | (show (Addr.add _ _).block ≠ _; rw [add_block]; exact Kd.own_blk (Kd.R_ne HO290.out BK295.out (by decide))) | (dsimp only; exact Kd.own_blk (Kd.R_ne HO290.out BK295.out (by decide)))) _).trans (((cell_far (p := ⟨gb295, _, none⟩) (by first | exact Kd.own_blk (Kd.R_ne HO290.out BK295.out (by decide)) | (rw [add_block]; exact Kd.own_blk (Kd.R_ne HO290.out BK295.out (by decide))) | (show (Addr.add _ _).block ≠ _; rw [add_block]; exact Kd.own_blk (Kd.R_ne HO290.out BK295.out (by decide))) | (dsimp only; exact Kd.own_blk (Kd.R_ne HO290.out BK295.out (by decide)))) _).trans (hHeld.2.2))))))⟩ (fun hHeld => ?_)
            clear hK K
            refine done_ (done_of HT_.out (by kernel_rfl)) ?_
            have hnb36 := NB295_284.out
            have hnc36 := NB284_295.out
            have hcz37_0 : w32.cell? ⟨gb295, 0, none⟩ = some (.int .i64 0) := (blk_cell BK295.out 0).trans rfl
            have hcz37_1 : w32.cell? ⟨gb295, 1, none⟩ = some (.int .i64 0) := (blk_cell BK295.out 1).trans rfl
            have hcz37_2 : w32.cell? ⟨gb295, 2, none⟩ = some (.int .i64 0) := (blk_cell BK295.out 2).trans rfl
            have hfz37_0 := blk_frozen BK295.out 0
            have hfz37_1 := blk_frozen BK295.out 1
            have hfz37_2 := blk_frozen BK295.out 2
            try go_wp2_with (first | ((with_reducible refine gate_callee (f := 10) rfl ?_); refine goesL_ (some 28) rfl rfl Try.func10 (by kernel_rfl) rfl #[.agg #[.int .i64 (rd t288 0), .int .i64 (rd t288 1), .int .i64 (rd t288 2)]] rfl (by (try simp only [List.map_toArray, List.map_cons, List.map_nil]); first | done | rfl | (simp only [List.length_drop, List.length_take]; rfl)) ?_; (with_reducible refine (inode_Put.calls k (rd t288 0) (rd t288 1) (rd t288 2) t296 t299 _ A7.out).mono ?_); rintro e w38 ⟨v297, rfl, ho0, hb⟩; refine ⟨_, rfl, ?_⟩; have n0_ := Aside0.mk (Kd.R_below (by (with_reducible repeat (first | apply Kd.R_alloc | apply Kd.R_drewN | apply Kd.R_drew)); exact (Kd.R_mono (Kd.R_far (p := ⟨gb295, 2, none⟩) (Kd.R_far (p := ⟨gb295, 1, none⟩) (Kd.R_far (p := ⟨gb295, 0, none⟩) (Kd.R_types HO287.out BK295.out (by decide)) (fun _ hk => hk.2) (.int .i64 (rd t288 0))) (fun _ hk => hk.2) (.int .i64 (rd t288 1))) (fun _ hk => hk.2) (.int .i64 (rd t288 2))) (fun _ h_ => h_.1))) hb); have n1_ := Aside0.mk (Kd.R_below (by (with_reducible repeat (first | apply Kd.R_alloc | apply Kd.R_drewN | apply Kd.R_drew)); exact (Kd.R_mono (Kd.R_far (p := ⟨gb295, 2, none⟩) (Kd.R_far (p := ⟨gb295, 1, none⟩) (Kd.R_far (p := ⟨gb295, 0, none⟩) (Kd.R_types HO290.out BK295.out (by decide)) (fun _ hk => hk.2) (.int .i64 (rd t288 0))) (fun _ hk => hk.2) (.int .i64 (rd t288 1))) (fun _ hk => hk.2) (.int .i64 (rd t288 2))) (fun _ h_ => h_.1))) hb); have n2_ := Aside0.mk (Kd.V_lower (Kd.V_mono (ok' := fun k_ => some k_ ≠ (.slice Ao28 y285.length co28 : Value).ownBlock ∧ some k_ ≠ (.slice (some ad292) t288.length co31 : Value).ownBlock ∧ k_ ≠ gb284 ∧ k_ ≠ gb295) ho0 (fun k_ hk_ => ⟨(Kd.fresh' (Kd.R_lt (by (with_reducible repeat (first | apply Kd.R_alloc | apply Kd.R_drewN | apply Kd.R_drew)); exact (Kd.R_mono (Kd.R_far (p := ⟨gb295, 2, none⟩) (Kd.R_far (p := ⟨gb295, 1, none⟩) (Kd.R_far (p := ⟨gb295, 0, none⟩) (Kd.R_types HO287.out BK295.out (by decide)) (fun _ hk => hk.2) (.int .i64 (rd t288 0))) (fun _ hk => hk.2) (.int .i64 (rd t288 1))) (fun _ hk => hk.2) (.int .i64 (rd t288 2))) (fun _ h_ => h_.1)))) k_ hk_), (Kd.fresh' (Kd.R_lt (by (with_reducible repeat (first | apply Kd.R_alloc | apply Kd.R_drewN | apply Kd.R_drew)); exact (Kd.R_mono (Kd.R_far (p := ⟨gb295, 2, none⟩) (Kd.R_far (p := ⟨gb295, 1, none⟩) (Kd.R_far (p := ⟨gb295, 0, none⟩) (Kd.R_types HO290.out BK295.out (by decide)) (fun _ hk => hk.2) (.int .i64 (rd t288 0))) (fun _ hk => hk.2) (.int .i64 (rd t288 1))) (fun _ hk => hk.2) (.int .i64 (rd t288 2))) (fun _ h_ => h_.1)))) k_ hk_), (Kd.freshB (g := gb284) (o := .cells #[.int .i64 0, .int .i64 0, .int .i64 0] 23 (0, 0)) (by (with_reducible repeat (first | refine blk_drewN ?_ _ | refine blk_drew ?_ | refine blk_alloc ?_ _)); refine blk_far ?_ NB284_295.out _; (with_reducible repeat (first | refine blk_drewN ?_ _ | refine blk_drew ?_ | refine blk_alloc ?_ _)); refine blk_far ?_ NB284_295.out _; (with_reducible repeat (first | refine blk_drewN ?_ _ | refine blk_drew ?_ | refine blk_alloc ?_ _)); refine blk_far ?_ NB284_295.out _; (with_reducible repeat (first | refine blk_drewN ?_ _ | refine blk_drew ?_ | refine blk_alloc ?_ _)); exact BK284.out) k_ hk_), (Kd.freshB (g := gb295) (o := .cells #[.int .i64 (rd t288 0), .int .i64 (rd t288 1), .int .i64 (rd t288 2)] 23 (0, 0)) (by (with_reducible repeat (first | refine blk_drewN ?_ _ | refine blk_drew ?_ | refine blk_alloc ?_ _)); refine blk_put (cs := #[.int .i64 (rd t288 0), .int .i64 (rd t288 1), .int .i64 0]) ?_ 2 _ rfl; (with_reducible repeat (first | refine blk_drewN ?_ _ | refine blk_drew ?_ | refine blk_alloc ?_ _)); refine blk_put (cs := #[.int .i64 (rd t288 0), .int .i64 0, .int .i64 0]) ?_ 1 _ rfl; (with_reducible repeat (first | refine blk_drewN ?_ _ | refine blk_drew ?_ | refine blk_alloc ?_ _)); refine blk_put (cs := #[.int .i64 0, .int .i64 0, .int .i64 0]) ?_ 0 _ rfl; (with_reducible repeat (first | refine blk_drewN ?_ _ | refine blk_drew ?_ | refine blk_alloc ?_ _)); exact BK295.out) k_ hk_)⟩)) (below_size (by repeat (first | (with_reducible first | exact HB.out | apply below_alloc | apply pw_below_drewN | apply below_drew1 | refine below_set ?_ GE284.out | refine below_set ?_ GE295.out) | exact HB.out)))); have n3_ := Aside0.mk (blk_below (g := gb284) (o := .cells #[.int .i64 0, .int .i64 0, .int .i64 0] 23 (0, 0)) (by (with_reducible repeat (first | refine blk_drewN ?_ _ | refine blk_drew ?_ | refine blk_alloc ?_ _)); refine blk_far ?_ NB284_295.out _; (with_reducible repeat (first | refine blk_drewN ?_ _ | refine blk_drew ?_ | refine blk_alloc ?_ _)); refine blk_far ?_ NB284_295.out _; (with_reducible repeat (first | refine blk_drewN ?_ _ | refine blk_drew ?_ | refine blk_alloc ?_ _)); refine blk_far ?_ NB284_295.out _; (with_reducible repeat (first | refine blk_drewN ?_ _ | refine blk_drew ?_ | refine blk_alloc ?_ _)); exact BK284.out) hb); have n4_ := Aside0.mk (blk_below (g := gb295) (o := .cells #[.int .i64 (rd t288 0), .int .i64 (rd t288 1), .int .i64 (rd t288 2)] 23 (0, 0)) (by (with_reducible repeat (first | refine blk_drewN ?_ _ | refine blk_drew ?_ | refine blk_alloc ?_ _)); refine blk_put (cs := #[.int .i64 (rd t288 0), .int .i64 (rd t288 1), .int .i64 0]) ?_ 2 _ rfl; (with_reducible repeat (first | refine blk_drewN ?_ _ | refine blk_drew ?_ | refine blk_alloc ?_ _)); refine blk_put (cs := #[.int .i64 (rd t288 0), .int .i64 0, .int .i64 0]) ?_ 1 _ rfl; (with_reducible repeat (first | refine blk_drewN ?_ _ | refine blk_drew ?_ | refine blk_alloc ?_ _)); refine blk_put (cs := #[.int .i64 0, .int .i64 0, .int .i64 0]) ?_ 0 _ rfl; (with_reducible repeat (first | refine blk_drewN ?_ _ | refine blk_drew ?_ | refine blk_alloc ?_ _)); exact BK295.out) hb); have n5_ := Aside0.mk (below_step (by repeat (first | (with_reducible first | exact HB.out | apply below_alloc | apply pw_below_drewN | apply below_drew1 | refine below_set ?_ GE284.out | refine below_set ?_ GE295.out) | exact HB.out)) hb); clear HO287; clear HO290; clear BK284; clear BK295; clear HB; have HO287 := n0_; have HO290 := n1_; have HO298 := n2_; have BK284 := n3_; have BK295 := n4_; have HB := n5_; clear n0_ n1_ n2_ n3_ n4_ n5_; (try clear hb); (try clear hb2); (try clear hk); (try clear hi); (try clear ho0); have hcz39_0 : w38.cell? ⟨gb284, 0, none⟩ = some (.int .i64 0) := (blk_cell BK284.out 0).trans rfl; have hcz39_1 : w38.cell? ⟨gb284, 1, none⟩ = some (.int .i64 0) := (blk_cell BK284.out 1).trans rfl; have hcz39_2 : w38.cell? ⟨gb284, 2, none⟩ = some (.int .i64 0) := (blk_cell BK284.out 2).trans rfl; have hfz39_0 := blk_frozen BK284.out 0; have hfz39_1 := blk_frozen BK284.out 1; have hfz39_2 := blk_frozen BK284.out 2))
            refine bodyPost_ret (results_ct rfl _ _ gb284 23 #[.int .i64 0, .int .i64 0, .int .i64 0] (0, 0) _ rfl (by (with_reducible repeat (first | refine blk_drewN ?_ _ | refine blk_drew ?_ | refine blk_alloc ?_ _)); refine blk_put (cs := #[.int .i64 0, .int .i64 0, .int .i64 0]) ?_ 2 _ rfl; (with_reducible repeat (first | refine blk_drewN ?_ _ | refine blk_drew ?_ | refine blk_alloc ?_ _)); refine blk_put (cs := #[.int .i64 0, .int .i64 0, .int .i64 0]) ?_ 1 _ rfl; (with_reducible repeat (first | refine blk_drewN ?_ _ | refine blk_drew ?_ | refine blk_alloc ?_ _)); refine blk_put (cs := #[.int .i64 0, .int .i64 0, .int .i64 0]) ?_ 0 _ rfl; (with_reducible repeat (first | refine blk_drewN ?_ _ | refine blk_drew ?_ | refine blk_alloc ?_ _)); exact BK284.out) Try.underlying23 rfl (by kernel_rfl)) rfl ?_
            exact ⟨by first | rfl | (simp [errW_none, errW_some] <;> rfl) | (simp [*, errW_none, errW_some] <;> rfl), by repeat (first | (with_reducible first | exact HB.out | apply below_alloc | apply pw_below_drewN | apply below_drew1 | refine below_set ?_ GE284.out | refine below_set ?_ GE295.out) | exact HB.out)⟩
        · rw [if_neg c6] at H
          exact absurd H (by simp)
      · rw [if_neg c5] at H
        exact absurd H (by simp)
    · rw [if_neg c4] at H
      exact absurd H (by simp)
  · replace c3 := Bool.eq_false_iff.mpr c3
    subst c3
    have H1 : (some (0, 0, 0, 3)) = some (r1, r2, r3, r4) := by rw [if_neg (show ¬ (false = true) by decide)] at H; exact H
    clear H
    have H := H1
    clear H1
    simp only [Option.some.injEq, Prod.mk.injEq] at H
    obtain ⟨rfl, rfl, rfl, rfl⟩ := H
    go_enter Try.func20, Try.ntmps20
    go_wp2_with (first | ((with_reducible refine gate_dst (N := 2) rfl ?_); refine box_event ?hg (N := 2) ?hd (cs := #[.int .i64 0, .int .i64 0, .int .i64 0]) (t := 23) ?hr ?_; (case hd => rfl); (case hg => rfl); (case hr => first | (go_simp; done) | (go_simp; rfl)); intro gb284 hg w40 hbox hb; have n0_ := Aside0.mk (below_step (by repeat (first | (with_reducible first | exact HB.out | apply below_alloc | apply pw_below_drewN | apply below_drew1) | exact HB.out)) hb); have n1_ := Aside0.mk (hbox); have n2_ := Aside0.mk ((by rw [hg]; exact (below_size (by repeat (first | (with_reducible first | exact HB.out | apply below_alloc | apply pw_below_drewN | apply below_drew1) | exact HB.out))) : w.heap.size ≤ gb284)); have n3_ := Aside0.mk ((by rw [hg]; exact (below_size (by repeat (first | (with_reducible first | exact HB.out | apply below_alloc | apply pw_below_drewN | apply below_drew1) | exact HB.out))) : w.heap.size ≤ gb284)); clear HB; have HB := n0_; have BK284 := n1_; have GW284 := n2_; have GE284 := n3_; clear n0_ n1_ n2_ n3_; clear hb hbox hg) | ((with_reducible refine gate_dst (N := 11) rfl ?_); refine Kd.R_lit (Kd.int .i64) _ 3 ?hg (N := 11) ?hd (xs := ([1, 2, 4] : List Int)) (inner := [.int .i64 1, .int .i64 2, .int .i64 4]) (ok := fun _ => True) (okp := fun _ => True) ?hr ?hp (fun _ hk => hk) trivial (Below.refl _ _) (Nat.le_refl _) (by simp) ?_; (case hd => rfl); (case hg => rfl); (case hr => first | (go_simp; done) | (go_simp; rfl)); (case hp => exact (Reps.one (show Kd.M (Kd.int .i64) _ _ _ 1 [.int .i64 1] from rfl) (Reps.one (show Kd.M (Kd.int .i64) _ _ _ 2 [.int .i64 2] from rfl) (Reps.one (show Kd.M (Kd.int .i64) _ _ _ 4 [.int .i64 4] from rfl) (Reps.none _ _))))); intro v286 w41 ho42 hb hg_ hnew_; clear hg_ hnew_; (first | rw [← Ny285.out] at ho42 | (simp only [Int.reduceToNat] at ho42; rw [← Ny285.out] at ho42)); have n0_ := Aside0.mk (Kd.R_lower ho42 (below_size (by repeat (first | (with_reducible first | exact HB.out | apply below_alloc | apply pw_below_drewN | apply below_drew1 | refine below_set ?_ GE284.out) | exact HB.out)))); have n1_ := Aside0.mk (blk_below (g := gb284) (o := .cells #[.int .i64 0, .int .i64 0, .int .i64 0] 23 (0, 0)) (by (with_reducible repeat (first | refine blk_drewN ?_ _ | refine blk_drew ?_ | refine blk_alloc ?_ _)); exact BK284.out) hb); have n2_ := Aside0.mk (below_step (by repeat (first | (with_reducible first | exact HB.out | apply below_alloc | apply pw_below_drewN | apply below_drew1 | refine below_set ?_ GE284.out) | exact HB.out)) hb); clear BK284; clear HB; have HO287 := n0_; have BK284 := n1_; have HB := n2_; clear n0_ n1_ n2_; clear hb ho42; obtain ⟨Ao43, co43, eo43⟩ := Kd.R_slice HO287.out; subst eo43) | ((with_reducible refine gate_callee (f := 31) rfl ?_); refine goesL_ (some 12) rfl rfl Try.func31 (by kernel_rfl) rfl #[.slice A0 l0.length c0, .slice Ao43 y285.length co43] rfl (by (try simp only [List.map_toArray, List.map_cons, List.map_nil]); first | done | rfl | (simp only [List.length_drop, List.length_take]; rfl)) ?_; (with_reducible refine (inode_take.calls k (fun k_ => k_ < w.heap.size) _ _ l0 _ _ y285 t288 false _ ?side1 ?side2 ?side3 A2.out).mono ?_); (case side1 => exact Kd.V_mk HC0.out (Kd.F_below (Kd.C_F (Kd.heap_int .u8) HR0.out) (by repeat (first | (with_reducible first | exact HB.out | apply below_alloc | apply pw_below_drewN | apply below_drew1 | refine below_set ?_ GE284.out) | exact HB.out)))); (case side2 => repeat (first | exact (Kd.R_reads' HO287.out).2.2 | (with_reducible refine Kd.C_alloc ?_ _) | (with_reducible refine Kd.C_drewN ?_ _) | (with_reducible refine Kd.C_drew ?_))); (case side3 => exact (Kd.R_reads' HO287.out).2.1); rintro e w44 ⟨v289, rfl, ho0, hb⟩; refine ⟨_, rfl, ?_⟩; have n0_ := Aside0.mk (Kd.R_elder' (by (with_reducible repeat (first | apply Kd.R_alloc | apply Kd.R_drewN | apply Kd.R_drew)); exact HO287.out) (Kd.R_base ho0) hb); have n1_ := Aside0.mk (Kd.R_lower (Kd.R_new' (Kd.R_mono (ok' := fun k_ => True) ho0 (fun _ hk_ => trivial)) (Kd.R_lt (by (with_reducible repeat (first | apply Kd.R_alloc | apply Kd.R_drewN | apply Kd.R_drew)); exact HO287.out))) (below_size (by repeat (first | (with_reducible first | exact HB.out | apply below_alloc | apply pw_below_drewN | apply below_drew1 | refine below_set ?_ GE284.out) | exact HB.out)))); have n2_ := Aside0.mk (blk_below (g := gb284) (o := .cells #[.int .i64 0, .int .i64 0, .int .i64 0] 23 (0, 0)) (by (with_reducible repeat (first | refine blk_drewN ?_ _ | refine blk_drew ?_ | refine blk_alloc ?_ _)); exact BK284.out) hb); have n3_ := Aside0.mk (below_step (by repeat (first | (with_reducible first | exact HB.out | apply below_alloc | apply pw_below_drewN | apply below_drew1 | refine below_set ?_ GE284.out) | exact HB.out)) hb); clear HO287; clear BK284; clear HB; have HO287 := n0_; have HO290 := n1_; have BK284 := n2_; have HB := n3_; clear n0_ n1_ n2_ n3_; (try clear hb); (try clear hb2); (try clear hk); (try clear hi); (try clear ho0); have hcz45_0 : w44.cell? ⟨gb284, 0, none⟩ = some (.int .i64 0) := (blk_cell BK284.out 0).trans rfl; have hcz45_1 : w44.cell? ⟨gb284, 1, none⟩ = some (.int .i64 0) := (blk_cell BK284.out 1).trans rfl; have hcz45_2 : w44.cell? ⟨gb284, 2, none⟩ = some (.int .i64 0) := (blk_cell BK284.out 2).trans rfl; have hfz45_0 := blk_frozen BK284.out 0; have hfz45_1 := blk_frozen BK284.out 1; have hfz45_2 := blk_frozen BK284.out 2))
    refine bodyPost_ret (results_ct rfl _ _ gb284 23 #[.int .i64 0, .int .i64 0, .int .i64 0] (0, 0) _ rfl (by (with_reducible repeat (first | refine blk_drewN ?_ _ | refine blk_drew ?_ | refine blk_alloc ?_ _)); refine blk_put (cs := #[.int .i64 0, .int .i64 0, .int .i64 0]) ?_ 2 _ rfl; (with_reducible repeat (first | refine blk_drewN ?_ _ | refine blk_drew ?_ | refine blk_alloc ?_ _)); refine blk_put (cs := #[.int .i64 0, .int .i64 0, .int .i64 0]) ?_ 1 _ rfl; (with_reducible repeat (first | refine blk_drewN ?_ _ | refine blk_drew ?_ | refine blk_alloc ?_ _)); refine blk_put (cs := #[.int .i64 0, .int .i64 0, .int .i64 0]) ?_ 0 _ rfl; (with_reducible repeat (first | refine blk_drewN ?_ _ | refine blk_drew ?_ | refine blk_alloc ?_ _)); exact BK284.out) Try.underlying23 rfl (by kernel_rfl)) rfl ?_
    exact ⟨by first | rfl | (simp [errW_none, errW_some] <;> rfl) | (simp [*, errW_none, errW_some] <;> rfl), by repeat (first | (with_reducible first | exact HB.out | apply below_alloc | apply pw_below_drewN | apply below_drew1 | refine below_set ?_ GE284.out) | exact HB.out)⟩

/-! ### GIVEN num_take: function 39 -/
def num_take.f (l0 : List Int) (n : Int) : Option (List Int × List Int × Int) :=
  (num_Take.f l0 n).bind fun t => if t.2.2 ≠ 0 ∨ (t.2.1.length : Int) < t.1 then some ([], [], 2) else if 0 ≤ t.1 then some (t.2.1.take t.1.toNat, t.2.1.drop t.1.toNat, 0) else none
set_option maxHeartbeats 1000000 in
/-- Both rows lie in memory that is new, and may be one. -/
theorem num_take.two (A0 : Option Addr) (c0 : Nat) (l0 : List Int) (n : Int) (r1 r2 : List Int) (r3 : Int) (w : World) (hr0 : Kd.C (Kd.int .u8) w A0 l0.length l0) (hc0 : l0.length ≤ c0) (h : num_take.f l0 n = some (r1, r2, r3)) :
    Calls Try.prog 39 #[.slice A0 l0.length c0, .int .i64 n] w fun e w' => ∃ v0_ v1_ : Value, e = .returned (.tuple #[v0_, v1_, .int .i64 r3]) ∧ Kd.V (Kd.int .u8) 5 w' w.heap.size (fun k_ => (w.heap.size ≤ k_)) v0_ r1 ∧ Kd.V (Kd.int .u8) 5 w' w.heap.size (fun k_ => (w.heap.size ≤ k_)) v1_ r2 ∧ Below w.heap.size w w' := by
  have HR0 := Aside0.mk hr0
  have HC0 := Aside0.mk hc0
  clear hr0 hc0
  unfold num_take.f at h
  obtain ⟨⟨k, rest, er⟩, ht, h⟩ := Option.bind_eq_some_iff.1 h
  have HT := Aside0.mk ht
  clear ht
  dsimp only at h
  by_cases hbad : er ≠ 0 ∨ (rest.length : Int) < k
  · rw [if_pos hbad] at h
    obtain ⟨rfl, rfl, rfl⟩ : [] = r1 ∧ [] = r2 ∧ 2 = r3 := by simpa using h
    clear h
    by_cases he : er = 0
    · subst he
      have hk : (rest.length : Int) < k := by rcases hbad with h | h; exact absurd rfl h; exact h
      clear hbad
      go_enter Try.func39, Try.ntmps39
      go_wp2_with (go_at_call 38; refine (num_Take.calls _ _ l0 n k rest 0 _ HR0.out HC0.out HT.out).mono ?_; rintro e w1 ⟨v1, rfl, ho, hb⟩; have HO := Aside0.mk ho; have HB1 := Aside0.mk hb; clear ho hb; obtain ⟨A1, c1, he1⟩ := Kd.R_slice HO.out; subst he1)
      go_ret3
      exact ⟨_, _, rfl, Kd.V_nil _ _ _ _ _, Kd.V_nil _ _ _ _ _, HB1.out⟩
    · clear hbad
      have he2 : (er != 0) = true := by simpa using he
      go_enter Try.func39, Try.ntmps39
      go_wp2_with (go_at_call 38; refine (num_Take.calls _ _ l0 n k rest er _ HR0.out HC0.out HT.out).mono ?_; rintro e w1 ⟨v1, rfl, ho, hb⟩; have HO := Aside0.mk ho; have HB1 := Aside0.mk hb; clear ho hb; obtain ⟨A1, c1, he1⟩ := Kd.R_slice HO.out; subst he1)
      go_ret3
      exact ⟨_, _, rfl, Kd.V_nil _ _ _ _ _, Kd.V_nil _ _ _ _ _, HB1.out⟩
  · rw [if_neg hbad] at h
    obtain ⟨rfl, hle⟩ : er = 0 ∧ k ≤ rest.length := by omega
    clear hbad
    by_cases h0 : 0 ≤ k
    · rw [if_pos h0] at h
      obtain ⟨m, rfl⟩ : ∃ m : Nat, k = m := ⟨k.toNat, by omega⟩
      rw [Int.toNat_natCast] at h
      obtain ⟨rfl, rfl, rfl⟩ : rest.take m = r1 ∧ rest.drop m = r2 ∧ 0 = r3 := by simpa using h
      clear h
      have hle2 : m ≤ rest.length := by omega
      have hlt : decide (rest.length < m) = false := by simp; omega
      go_enter Try.func39, Try.ntmps39
      go_wp2_with (go_at_call 38; refine (num_Take.calls _ _ l0 n m rest 0 _ HR0.out HC0.out HT.out).mono ?_; rintro e w1 ⟨v1, rfl, ho, hb⟩; have HO := Aside0.mk ho; have HB1 := Aside0.mk hb; clear ho hb; obtain ⟨A1, c1, he1⟩ := Kd.R_slice HO.out; subst he1)
      have hcc := (Kd.R_reads' HO.out).2.1
      have hF := Kd.R_F (Kd.R_mono (ok' := fun k_ => w.heap.size ≤ k_) (Kd.R_bound HO.out) (fun k hk => hk.2.1))
      have hV0 := Kd.V_mk (e := 5) (base := w.heap.size) (c := m) (by rw [List.length_take]; omega) (Kd.F_take hF hle2)
      have hV1 := Kd.V_mk (e := 5) (base := w.heap.size) (c := c1 - m) (by rw [List.length_drop]; omega) (Kd.F_cut (c := c1) hF hle2 hcc)
      obtain ⟨A2, hA2⟩ : ∃ A2, A2 = (if c1 = m then A1 else A1.map (·.add (m * (Kd.int IntKind.u8).sz))) := ⟨_, rfl⟩
      rw [← hA2] at hV1
      rw [List.length_take, Nat.min_eq_left hle2] at hV0
      rw [List.length_drop] at hV1
      have hcut0 := fun W => Own.run_cut3 (P := Try.prog) 26 5 .i64 .i64 Try.underlying26 (z := 1) (by kernel_rfl) A1 rest.length c1 m (by omega) W
      obtain ⟨i0, hi0, _, hs0, _⟩ := info_parts info5
      have hcut1 := cut_from (P := Try.prog) 26 5 .i64 Try.underlying26 hi0 1 hs0 A1 rest.length c1 m (by omega) (by omega)
      rw [Int.toNat_natCast] at hcut1
      have hA3 : A2 = (if c1 = m then A1 else A1.map (·.add (m * 1))) := hA2
      rw [← hA3] at hcut1
      have HV0 := Aside0.mk hV0
      have HV1 := Aside0.mk hV1
      clear hV0 hV1 hF hA2 hA3 hi0 hs0
      go_quiet (fail)
      go_wp2
      go_ret3
      exact ⟨_, _, rfl, Kd.V_drewN HV0.out _, Kd.V_drewN HV1.out _, pw_below_drewN HB1.out _⟩
    · rw [if_neg h0] at h
      cases h
/-! ### end of GIVEN -/
/-! ### GIVEN num_TakeText: function 33 -/
def num_TakeText.f (l0 : List Int) : Option (ByteArray × List Int × Int) := (num_take.f l0 1).bind fun t => some (strOfNums t.1, t.2.1, t.2.2)
set_option maxHeartbeats 400000 in
theorem num_TakeText.calls (A0 : Option Addr) (c0 : Nat) (l0 : List Int) (r1 : ByteArray) (r2 : List Int) (r3 : Int) (w : World) (hr0 : Kd.C (Kd.int .u8) w A0 l0.length l0) (hc0 : l0.length ≤ c0) (h : num_TakeText.f l0 = some (r1, r2, r3)) :
    Calls Try.prog 33 #[.slice A0 l0.length c0] w fun e w' => ∃ v1_ : Value, e = .returned (.tuple #[.string r1, v1_, .int .i64 r3]) ∧ Kd.V (Kd.int .u8) 5 w' w.heap.size (fun k_ => (w.heap.size ≤ k_)) v1_ r2 ∧ Below w.heap.size w w' := by
  have HR0 := Aside0.mk hr0
  have HC0 := Aside0.mk hc0
  unfold num_TakeText.f at h
  obtain ⟨⟨x, rest, er⟩, ht, h⟩ := Option.bind_eq_some_iff.1 h
  obtain ⟨rfl, rfl, rfl⟩ : strOfNums x = r1 ∧ rest = r2 ∧ er = r3 := by simpa using h
  have HT := Aside0.mk ht
  clear ht hr0 hc0 h
  go_enter Try.func33, Try.ntmps33
  go_wp2_with (go_at_call 39; refine (num_take.two _ _ l0 1 x rest er _ HR0.out HC0.out HT.out).mono ?_; rintro e w1 ⟨v0, v1, rfl, h0, h1, hb⟩; have HO := Aside0.mk h0; have HO1 := Aside0.mk h1; have HB1 := Aside0.mk hb; clear h0 h1 hb; obtain ⟨A1, c1, he1⟩ := Kd.V_slice HO.out; subst he1; have hcv := fun c_ : Nat => Kd.C_string (c := c_) (P := Try.prog) Try.underlying26 Try.underlying5 Try.underlying9 (Kd.V_reads' HO.out).2.2)
  go_ret3
  exact ⟨_, rfl, HO1.out, HB1.out⟩
/-! ### end of GIVEN -/
end Go.Proofs.Ytpahlfjfadammaa.P
