import Derived.Test.YtgklipfeheohkaaDoorPx0
import Derived.Test.YtgklipfeheohkaaDoorPx1
namespace Go.Proofs.YtgklipfeheohkaaDoor.P
open Go.RowKit Go.Proofs.YtgklipfeheohkaaDoorW.PrintWords Go.Proofs.YtgklipfeheohkaaDoorW.PrintLast Go.Proofs.YtgklipfeheohkaaDoorW.PrintMore
attribute [local go_sem] max2_int min2_int max_two min_two max_three min_three max_four min_four   -- for this text's walks alone
set_option linter.unusedVariables false
set_option linter.unusedSimpArgs false
def takeStep (x c : Int) : Int := Go.bits .or .i64 (wrap64 (x * 256)) (wrap64 c)
def num_Take.f (l0 : List Int) (n : Int) : Option (Int × List Int × Int) :=
 if n < 1 ∨ 7 < n then some (0, [], 1) else if (l0.length : Int) < n then some (0, [], 2) else (num_join.f [] (l0.drop n.toNat)).bind fun r => some ((l0.take n.toNat).foldl takeStep 0, r, 0)
theorem foldT (l : List Int) (a : Int) (k : Nat) (h : k < l.length) : (l.take (k + 1)).foldl takeStep a = takeStep ((l.take k).foldl takeStep a) (rd l k) := by
 rw [List.take_succ_eq_append_getElem h, List.foldl_append]
 simp [rd, List.getD_eq_getElem?_getD, h]
set_option maxRecDepth 100000 in
set_option maxHeartbeats 1000000 in
theorem num_Take.calls (A0 : Option Addr) (c0 : Nat) (l0 : List Int) (n : Int) (r1 : Int) (r2 : List Int) (r3 : Int) (w : World) (hr0 : Kd.C (Kd.int .u8) w A0 l0.length l0) (hc0 : l0.length ≤ c0) (h : num_Take.f l0 n = some (r1, r2, r3)) :
  Calls Tryd.prog 52 #[.slice A0 l0.length c0, .int .i64 n] w fun e w' => ∃ v1_ : Value, e = .returned (.tuple #[.int .i64 r1, v1_, .int .i64 r3]) ∧ Kd.R (Kd.int .u8) 5 w' w.heap.size (fun _ => True) v1_ r2 ∧ Below w.heap.size w w' := by
 have HR0 := Aside0.mk hr0
 have HC0 := Aside0.mk hc0
 have HM := Aside0.mk hr0.2.1
 clear hr0 hc0
 unfold num_Take.f at h
 by_cases hbad : n < 1 ∨ 7 < n
 ·rw [if_pos hbad] at h
  obtain ⟨rfl, rfl, rfl⟩ : 0 = r1 ∧ [] = r2 ∧ 1 = r3 := by simpa using h
  clear h
  rcases hbad with hbad | hbad
  all_goals
   go_enter Tryd.func52, Tryd.ntmps52
   go_wp2
   go_ret3
   exact ⟨_, rfl, Kd.R_nil _ _ _ _ _, Below.refl _ _⟩
 rw [if_neg hbad] at h
 have h1 : 1 ≤ n := by omega
 have h7 : n ≤ 7 := by omega
 clear hbad
 obtain ⟨m, rfl⟩ : ∃ m : Nat, n = m := ⟨n.toNat, by omega⟩
 have hm := HM.out
 by_cases hsh : (l0.length : Int) < m
 ·rw [if_pos hsh] at h
  obtain ⟨rfl, rfl, rfl⟩ : 0 = r1 ∧ [] = r2 ∧ 2 = r3 := by simpa using h
  clear h
  have hsh2 : decide (l0.length < m) = true := by simp; omega
  go_enter Tryd.func52, Tryd.ntmps52
  go_wp2
  go_ret3
  exact ⟨_, rfl, Kd.R_nil _ _ _ _ _, Below.refl _ _⟩
 ·rw [if_neg hsh] at h
  obtain ⟨q, hq, hr⟩ := Option.bind_eq_some_iff.1 h
  obtain ⟨rfl, rfl, rfl⟩ : _ = r1 ∧ q = r2 ∧ 0 = r3 := by simpa using hr
  rw [Int.toNat_natCast] at *
  have HQ := Aside0.mk hq
  clear h hr hq
  have hsh2 : decide (l0.length < m) = false := by simp; omega
  have hle : m ≤ l0.length := by omega
  obtain ⟨i0, hi0, _, hs0, _⟩ := info_parts info5
  have hcut := cut_to (P := Tryd.prog) 35 5 .i64 Tryd.underlying35 hi0 A0 l0.length c0 m (by omega) (by omega) HC0.out
  rw [Int.toNat_natCast] at hcut
  obtain ⟨A1, ys, HY, hcut2, HD, HCD⟩ := Own.cut_drop (P := Tryd.prog) (Kd.int .u8) 35 5 .i64 Tryd.underlying35 q18_ HR0.out HC0.out m hle
  go_enter Tryd.func52, Tryd.ntmps52
  go_wp2
  go_loop [7, 26] (fun v i => ∃ k : Nat, k ≤ m ∧ i = .int .i64 k ∧ v = .int .i64 ((l0.take k).foldl takeStep 0)) (fun _ i => m - (intOf i).toNat)
  case atStart => exact ⟨0, by omega, rfl, rfl⟩
  case round =>
   obtain ⟨k, hk, rfl, rfl⟩ := hrel
   by_cases hlt : k < m
   ·have HF := Aside0.mk (foldT l0 0 k (by omega))
    obtain ⟨ad, hAd, hcell⟩ := Kd.at_int HR0.out (k : Int) (by omega) (by omega)
    subst hAd
    rw [Int.toNat_natCast] at hcell
    go_wp2
    go_round
    case rel => exact ⟨k + 1, by omega, by go_num, by rw [HF.out]; rfl⟩
    case measure => simp [intOf]; omega
   ·obtain rfl : k = m := by omega
    go_wp2_with (go_at_call 47; refine (num_join.calls none 0 [] _ _ ys q _ (Kd.C_nil _ _) (Nat.le_refl _) HD.out HCD.out (by rw [HY.out]; exact HQ.out)).mono ?_; rintro e w1 ⟨v1, rfl, ho, hb⟩; have HO := Aside0.mk ho; have HB1 := Aside0.mk hb; clear ho hb)
    go_ret3
    exact ⟨_, rfl, HO.out, HB1.out⟩
def num_take.f (l0 : List Int) (n : Int) : Option (List Int × List Int × Int) :=
 (num_Take.f l0 n).bind fun t => if t.2.2 ≠ 0 ∨ (t.2.1.length : Int) < t.1 then some ([], [], 2) else if 0 ≤ t.1 then some (t.2.1.take t.1.toNat, t.2.1.drop t.1.toNat, 0) else none
set_option maxHeartbeats 1000000 in
/-- Both rows lie in memory that is new, and may be one. -/
theorem num_take.two (A0 : Option Addr) (c0 : Nat) (l0 : List Int) (n : Int) (r1 r2 : List Int) (r3 : Int) (w : World) (hr0 : Kd.C (Kd.int .u8) w A0 l0.length l0) (hc0 : l0.length ≤ c0) (h : num_take.f l0 n = some (r1, r2, r3)) :
  Calls Tryd.prog 62 #[.slice A0 l0.length c0, .int .i64 n] w fun e w' => ∃ v0_ v1_ : Value, e = .returned (.tuple #[v0_, v1_, .int .i64 r3]) ∧ Kd.V (Kd.int .u8) 5 w' w.heap.size (fun k_ => (w.heap.size ≤ k_)) v0_ r1 ∧ Kd.V (Kd.int .u8) 5 w' w.heap.size (fun k_ => (w.heap.size ≤ k_)) v1_ r2 ∧ Below w.heap.size w w' := by
 have HR0 := Aside0.mk hr0
 have HC0 := Aside0.mk hc0
 clear hr0 hc0
 unfold num_take.f at h
 obtain ⟨⟨k, rest, er⟩, ht, h⟩ := Option.bind_eq_some_iff.1 h
 have HT := Aside0.mk ht
 clear ht
 dsimp only at h
 by_cases hbad : er ≠ 0 ∨ (rest.length : Int) < k
 ·rw [if_pos hbad] at h
  obtain ⟨rfl, rfl, rfl⟩ : [] = r1 ∧ [] = r2 ∧ 2 = r3 := by simpa using h
  clear h
  by_cases he : er = 0
  ·subst he
   have hk : (rest.length : Int) < k := by rcases hbad with h | h; exact absurd rfl h; exact h
   clear hbad
   go_enter Tryd.func62, Tryd.ntmps62
   go_wp2_with (go_at_call 52; refine (num_Take.calls _ _ l0 n k rest 0 _ HR0.out HC0.out HT.out).mono ?_; rintro e w1 ⟨v1, rfl, ho, hb⟩; have HO := Aside0.mk ho; have HB1 := Aside0.mk hb; clear ho hb; obtain ⟨A1, c1, he1⟩ := Kd.R_slice HO.out; subst he1)
   go_ret3
   exact ⟨_, _, rfl, Kd.V_nil _ _ _ _ _, Kd.V_nil _ _ _ _ _, HB1.out⟩
  ·clear hbad
   have he2 : (er != 0) = true := by simpa using he
   go_enter Tryd.func62, Tryd.ntmps62
   go_wp2_with (go_at_call 52; refine (num_Take.calls _ _ l0 n k rest er _ HR0.out HC0.out HT.out).mono ?_; rintro e w1 ⟨v1, rfl, ho, hb⟩; have HO := Aside0.mk ho; have HB1 := Aside0.mk hb; clear ho hb; obtain ⟨A1, c1, he1⟩ := Kd.R_slice HO.out; subst he1)
   go_ret3
   exact ⟨_, _, rfl, Kd.V_nil _ _ _ _ _, Kd.V_nil _ _ _ _ _, HB1.out⟩
 ·rw [if_neg hbad] at h
  obtain ⟨rfl, hle⟩ : er = 0 ∧ k ≤ rest.length := by omega
  clear hbad
  by_cases h0 : 0 ≤ k
  ·rw [if_pos h0] at h
   obtain ⟨m, rfl⟩ : ∃ m : Nat, k = m := ⟨k.toNat, by omega⟩
   rw [Int.toNat_natCast] at h
   obtain ⟨rfl, rfl, rfl⟩ : rest.take m = r1 ∧ rest.drop m = r2 ∧ 0 = r3 := by simpa using h
   clear h
   have hle2 : m ≤ rest.length := by omega
   have hlt : decide (rest.length < m) = false := by simp; omega
   go_enter Tryd.func62, Tryd.ntmps62
   go_wp2_with (go_at_call 52; refine (num_Take.calls _ _ l0 n m rest 0 _ HR0.out HC0.out HT.out).mono ?_; rintro e w1 ⟨v1, rfl, ho, hb⟩; have HO := Aside0.mk ho; have HB1 := Aside0.mk hb; clear ho hb; obtain ⟨A1, c1, he1⟩ := Kd.R_slice HO.out; subst he1)
   have hcc := (Kd.R_reads' HO.out).2.1
   have hF := Kd.R_F (Kd.R_mono (ok' := fun k_ => w.heap.size ≤ k_) (Kd.R_bound HO.out) (fun k hk => hk.2.1))
   have hV0 := Kd.V_mk (e := 5) (base := w.heap.size) (c := m) (by rw [List.length_take]; omega) (Kd.F_take hF hle2)
   have hV1 := Kd.V_mk (e := 5) (base := w.heap.size) (c := c1 - m) (by rw [List.length_drop]; omega) (Kd.F_cut (c := c1) hF hle2 hcc)
   obtain ⟨A2, hA2⟩ : ∃ A2, A2 = (if c1 = m then A1 else A1.map (·.add (m * (Kd.int IntKind.u8).sz))) := ⟨_, rfl⟩
   rw [← hA2] at hV1
   rw [List.length_take, Nat.min_eq_left hle2] at hV0
   rw [List.length_drop] at hV1
   have hcut0 := fun W => Own.run_cut3 (P := Tryd.prog) 35 5 .i64 .i64 Tryd.underlying35 (z := 1) q18_ A1 rest.length c1 m (by omega) W
   obtain ⟨i0, hi0, _, hs0, _⟩ := info_parts info5
   have hcut1 := cut_from (P := Tryd.prog) 35 5 .i64 Tryd.underlying35 hi0 1 hs0 A1 rest.length c1 m (by omega) (by omega)
   rw [Int.toNat_natCast] at hcut1
   have hA3 : A2 = (if c1 = m then A1 else A1.map (·.add (m * 1))) := hA2
   rw [← hA3] at hcut1
   have HV0 := Aside0.mk hV0
   have HV1 := Aside0.mk hV1
   clear hV0 hV1 hF hA2 hA3 hi0 hs0
   go_quiet (fail)
   go_wp2
   go_ret3
   exact ⟨_, _, rfl, Kd.V_drewN HV0.out _, Kd.V_drewN HV1.out _, pw_below_drewN HB1.out _⟩
  ·rw [if_neg h0] at h
   cases h
def num_TakeText.f (l0 : List Int) : Option (ByteArray × List Int × Int) := (num_take.f l0 1).bind fun t => some (strOfNums t.1, t.2.1, t.2.2)
set_option maxHeartbeats 400000 in
theorem num_TakeText.calls (A0 : Option Addr) (c0 : Nat) (l0 : List Int) (r1 : ByteArray) (r2 : List Int) (r3 : Int) (w : World) (hr0 : Kd.C (Kd.int .u8) w A0 l0.length l0) (hc0 : l0.length ≤ c0) (h : num_TakeText.f l0 = some (r1, r2, r3)) :
  Calls Tryd.prog 51 #[.slice A0 l0.length c0] w fun e w' => ∃ v1_ : Value, e = .returned (.tuple #[.string r1, v1_, .int .i64 r3]) ∧ Kd.V (Kd.int .u8) 5 w' w.heap.size (fun k_ => (w.heap.size ≤ k_)) v1_ r2 ∧ Below w.heap.size w w' := by
 have HR0 := Aside0.mk hr0
 have HC0 := Aside0.mk hc0
 unfold num_TakeText.f at h
 obtain ⟨⟨x, rest, er⟩, ht, h⟩ := Option.bind_eq_some_iff.1 h
 obtain ⟨rfl, rfl, rfl⟩ : strOfNums x = r1 ∧ rest = r2 ∧ er = r3 := by simpa using h
 have HT := Aside0.mk ht
 clear ht hr0 hc0 h
 go_enter Tryd.func51, Tryd.ntmps51
 go_wp2_with (go_at_call 62; refine (num_take.two _ _ l0 1 x rest er _ HR0.out HC0.out HT.out).mono ?_; rintro e w1 ⟨v0, v1, rfl, h0, h1, hb⟩; have HO := Aside0.mk h0; have HO1 := Aside0.mk h1; have HB1 := Aside0.mk hb; clear h0 h1 hb; obtain ⟨A1, c1, he1⟩ := Kd.V_slice HO.out; subst he1; have hcv := fun c_ : Nat => Kd.C_string (c := c_) (P := Tryd.prog) Tryd.underlying35 Tryd.underlying5 Tryd.underlying9 (Kd.V_reads' HO.out).2.2)
 go_ret3
 exact ⟨_, rfl, HO1.out, HB1.out⟩
def num_TakeBytes.f (l0 : List Int) : Option (List Int × List Int × Int) := (num_take.f l0 2).bind fun t => if t.2.2 ≠ 0 then some ([], [], t.2.2) else (num_join.f [] t.1).bind fun x => some (x, t.2.1, t.2.2)
set_option maxHeartbeats 400000 in
theorem num_TakeBytes.calls (A0 : Option Addr) (c0 : Nat) (l0 : List Int) (r1 r2 : List Int) (r3 : Int) (w : World) (hr0 : Kd.C (Kd.int .u8) w A0 l0.length l0) (hc0 : l0.length ≤ c0) (h : num_TakeBytes.f l0 = some (r1, r2, r3)) :
  Calls Tryd.prog 53 #[.slice A0 l0.length c0] w fun e w' => ∃ v0_ v1_ : Value, e = .returned (.tuple #[v0_, v1_, .int .i64 r3]) ∧ Kd.R (Kd.int .u8) 5 w' w.heap.size (fun k_ => (w.heap.size ≤ k_)) v0_ r1 ∧ Kd.V (Kd.int .u8) 5 w' w.heap.size (fun k_ => (w.heap.size ≤ k_) ∧ some k_ ≠ (v0_ : Value).ownBlock) v1_ r2 ∧ Below w.heap.size w w' := by
 have HR0 := Aside0.mk hr0
 have HC0 := Aside0.mk hc0
 unfold num_TakeBytes.f at h
 obtain ⟨⟨x, rest, er⟩, ht, h⟩ := Option.bind_eq_some_iff.1 h
 have HT := Aside0.mk ht
 clear ht hr0 hc0
 dsimp only at h
 by_cases he : er ≠ 0
 ·rw [if_pos he] at h
  obtain ⟨rfl, rfl, rfl⟩ : [] = r1 ∧ [] = r2 ∧ er = r3 := by simpa using h
  clear h
  have he2 : (er != 0) = true := by simpa using he
  clear he
  go_enter Tryd.func53, Tryd.ntmps53
  go_wp2_with (go_at_call 62; refine (num_take.two _ _ l0 2 x rest er _ HR0.out HC0.out HT.out).mono ?_; rintro e w1 ⟨v0, v1, rfl, h0, h1, hb⟩; have HB1 := Aside0.mk hb; clear h0 h1 hb)
  go_ret3
  exact ⟨_, _, rfl, Kd.R_nil _ _ _ _ _, Kd.V_nil _ _ _ _ _, HB1.out⟩
 ·rw [if_neg he] at h
  obtain rfl : er = 0 := by simpa using he
  obtain ⟨y, hy, h⟩ := Option.bind_eq_some_iff.1 h
  obtain ⟨rfl, rfl, rfl⟩ : y = r1 ∧ rest = r2 ∧ 0 = r3 := by simpa using h
  have HY := Aside0.mk hy
  clear h he hy
  go_enter Tryd.func53, Tryd.ntmps53
  go_wp2_with (first | (go_at_call 62; refine (num_take.two _ _ l0 2 x rest 0 _ HR0.out HC0.out HT.out).mono ?_; rintro e w1 ⟨v0, v1, rfl, h0, h1, hb⟩; have HO := Aside0.mk h0; have HO1 := Aside0.mk h1; have HB1 := Aside0.mk hb; clear h0 h1 hb; obtain ⟨A1, c1, he1⟩ := Kd.V_slice HO.out; subst he1; have hcut0 := fun W => Own.run_cut3 (P := Tryd.prog) 35 5 .i64 .i64 Tryd.underlying35 (z := 1) q18_ A1 x.length c1 0 (Nat.zero_le _) W) | (go_at_call 47; refine (num_join.calls _ 0 [] _ _ x y _ ⟨rfl, by decide, fun hz => absurd hz q81_⟩ (Nat.le_refl _) (Kd.V_reads' HO.out).2.2 (Kd.V_reads' HO.out).2.1 HY.out).mono ?_; rintro e w2 ⟨v2, rfl, h2, hb⟩; have HO2 := Aside0.mk h2; have HB2 := Aside0.mk hb; clear h2 hb))
  go_ret3
  refine ⟨_, _, rfl, ?_, ?_, below_step HB1.out HB2.out⟩
  ·exact Kd.R_lower (Kd.R_mono (Kd.R_bound HO2.out) (fun k hk => Nat.le_trans HB1.out.size hk.2.1)) HB1.out.size
  ·exact Kd.V_elder' (u := v2) HO1.out (fun k hk => own_base (Kd.own_of_R HO2.out) k hk) HB2.out
end Go.Proofs.YtgklipfeheohkaaDoor.P
